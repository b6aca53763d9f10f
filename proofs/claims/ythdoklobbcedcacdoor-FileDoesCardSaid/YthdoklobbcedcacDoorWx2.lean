/- That the machine computes these: walks, printed by a program of ours. -/
import Derived.Test.YthdoklobbcedcacDoorPx
import Derived.Test.YthdoklobbcedcacDoorWx1
set_option linter.unusedVariables false
set_option linter.unusedSimpArgs false
namespace Go.Cen
set_option maxRecDepth 100000
set_option maxHeartbeats 4000000
/-- cenotaph/file.Append -/
theorem c30 (w0 w : World) (Z : Hp) (A : HP) (hI : Inv w0 Z w A) (hT : Tabs Z) (ud : Int) (ue : ByteArray) (ub : ByteArray) (uf : Bool) (ug : Int) (ua : Option Addr) (uh : Nat) (uc : (List ByteArray)) (ui : RdS Z cS 1 ua uh uc) (a1 : ByteArray) (r : (Int × ByteArray × ByteArray × Bool × Int × (List ByteArray) × Int)) (h0 : file_Append ud ue ub uf ug uc a1 = some r) :
  Calls prog 30 #[.agg ([iv ud, .string ue, .string ub, .bool uf, iv ug, .slice ua uc.length uh] : LV).toArray, .string a1] w (fun e w' => ∃ (A1 : Option Addr) (c1 : Nat) (Z' : Hp), Z.le Z' ∧ e = .returned (.tuple #[.agg ([iv r.1, .string r.2.1, .string r.2.2.1, .bool r.2.2.2.1, iv r.2.2.2.2.1, .slice A1 r.2.2.2.2.2.1.length c1] : LV).toArray, iv r.2.2.2.2.2.2]) ∧ RdS Z' cS 1 A1 c1 r.2.2.2.2.2.1 ∧ Inv w0 Z' w' A) := by
 have e4 := calls_intro (R := (fun e w' => ∃ (A1 : Option Addr) (c1 : Nat) (Z' : Hp), Z.le Z' ∧ e = .returned (.tuple #[.agg ([iv r.1, .string r.2.1, .string r.2.2.1, .bool r.2.2.2.1, iv r.2.2.2.2.1, .slice A1 r.2.2.2.2.2.1.length c1] : LV).toArray, iv r.2.2.2.2.2.2]) ∧ RdS Z' cS 1 A1 c1 r.2.2.2.2.2.1 ∧ Inv w0 Z' w' A)) (w := w) (args := [.agg ([iv ud, .string ue, .string ub, .bool uf, iv ug, .slice ua uc.length uh] : LV).toArray, .string a1]) (fn := Go.Proofs.Tryd.f30) 29 Go.Proofs.Tryd.func30 (by rfl) Go.Proofs.Tryd.ntmps30 (by kernel_rfl)
 refine e4 ?_
 clear e4
 unfold file_Append at h0
 refine cQ ?_
 refine cR [0, 1, 2] (by kernel_rfl) ?_
 refine oC (Does.boxL (d := 2) (T := 27) (v := .agg ([iv ud, .string ue, .string ub, .bool uf, iv ug, .slice ua uc.length uh] : LV).toArray) ([iv ud, .string ue, .string ub, .bool uf, iv ug, .slice ua uc.length uh] : LV) (by kernel_rfl) hI (by kernel_rfl) ?_)
 intro b1 w hI
 refine oC (Does.allocL (d := 4) (T := 27) ((([iv 0, .string (⟨#[]⟩ : ByteArray), .string (⟨#[]⟩ : ByteArray), .bool false, iv 0, .slice none 0 0] : LV))) (by kernel_rfl) ty27 hI (by kernel_rfl) ?_)
 intro b2 w hI
 refine oP (r := []) [2] (S' := [(1, .string a1), (2, pb b1), (4, pb b2)]) (by kernel_rfl) ?_
 refine oD ?_
 refine qT ?_
 refine cQ ?_
 refine CodT.block ?_
 refine cQ ?_
 refine cR [0, 1, 2] (by kernel_rfl) ?_
 refine oP (r := [1, 2]) [0] (S' := [(1, .string a1), (2, pb b1), (4, pb b2), (7, .pointer (some ⟨b1, 3, none⟩))]) (by kernel_rfl) ?_
 refine oC (Does.yi (Yl.load (d := 8) (T := 4) (v := .bool uf) (by kernel_rfl) (ldB ty4 (l := ([iv ud, .string ue, .string ub, .bool uf, iv ug, .slice ua uc.length uh] : LV)) (o := 3) (v := .bool uf) (pick2 _ _ _) (by kernel_rfl))) hI ?_)
 refine oP (r := []) [2] (S' := [(1, .string a1), (2, pb b1), (4, pb b2), (6, .bool uf)]) (by kernel_rfl) ?_
 refine oD ?_
 refine qT ?_
 by_cases hb3 : uf = true
 ·
  rw [if_pos hb3] at h0
  refine CodT.yes' (b := uf) (by kernel_rfl) hb3 ?_
  refine cQ ?_
  refine cR [0, 1, 2] (by kernel_rfl) ?_
  refine oC (Does.yi (Yl.load (d := 9) (T := 27) (v := .agg ([iv ud, .string ue, .string ub, .bool uf, iv ug, .slice ua uc.length uh] : LV).toArray) (by kernel_rfl) (ldBN ty27 (l := ([iv ud, .string ue, .string ub, .bool uf, iv ug, .slice ua uc.length uh] : LV)) (o := 0) (cs := ([iv ud, .string ue, .string ub, .bool uf, iv ug, .slice ua uc.length uh] : LV)) (pick2 _ _ _) (by kernel_rfl) (whole _ _ (by kernel_rfl)))) hI ?_)
  refine oC (dS (T := 27) (b := b2) (o := 0) (v := .agg ([iv ud, .string ue, .string ub, .bool uf, iv ug, .slice ua uc.length uh] : LV).toArray) (l := (([iv 0, .string (⟨#[]⟩ : ByteArray), .string (⟨#[]⟩ : ByteArray), .bool false, iv 0, .slice none 0 0] : LV))) (vs := ([iv ud, .string ue, .string ub, .bool uf, iv ug, .slice ua uc.length uh] : LV)) (L' := ([iv ud, .string ue, .string ub, .bool uf, iv ug, .slice ua uc.length uh] : LV)) (by kernel_rfl) ty27 hI (by kernel_rfl) (by kernel_rfl) (by kernel_rfl) (by kernel_rfl) (by kernel_rfl) ?_)
  intro w hI
  refine oP (r := []) [2] (S' := [(4, pb b2), (5, iv 5)]) (by kernel_rfl) ?_
  refine oD ?_
  refine qT ?_
  refine CodT.ret ?_
  refine Qn.block_ret ?_
  refine Qn.ret_then ?_
  have hL4 := (ldBN ty27 (l := ([iv ud, .string ue, .string ub, .bool uf, iv ug, .slice ua uc.length uh] : LV)) (o := 0) (cs := ([iv ud, .string ue, .string ub, .bool uf, iv ug, .slice ua uc.length uh] : LV)) (ent_refl _) (by kernel_rfl) (whole _ _ (by kernel_rfl))) w hI
  have hI := hI.drop
  have hI := hI.drop
  have e := someS h0
  subst e
  refine qK [4, 5] (S' := [(4, pb b2), (5, iv 5)]) (by kernel_rfl) ?_
  exact post_ret (v := .tuple #[.agg ([iv ud, .string ue, .string ub, .bool uf, iv ug, .slice ua uc.length uh] : LV).toArray, iv 5]) (fun a ha => RunRes.run (vs := [.agg ([iv ud, .string ue, .string ub, .bool uf, iv ug, .slice ua uc.length uh] : LV).toArray, iv 5]) (.cell (t := 4) (T := 27) (ad := ⟨b2, 0, none⟩) (by kernel_rfl) hL4 (.tmp (t := 5) (by kernel_rfl) .nil)) ha (by kernel_rfl)) ⟨ua, uh, Z, Hp.le_refl _, rfl, ui, hI⟩
 ·
  rw [if_neg hb3] at h0
  refine CodT.no' (b := uf) (by kernel_rfl) (by simpa using hb3) ?_
  refine cQ ?_
  refine cR [0, 1, 2] (by kernel_rfl) ?_
  refine oP (r := []) [0, 1, 2] (S' := [(1, .string a1), (2, pb b1), (4, pb b2), (10, .bool (seq a1 (⟨#[]⟩ : ByteArray)))]) (by kernel_rfl) ?_
  refine oD ?_
  refine qT ?_
  by_cases hb5 : (seq a1 (⟨#[]⟩ : ByteArray)) = true
  ·
   rw [if_pos hb5] at h0
   refine CodT.yes' (b := seq a1 (⟨#[]⟩ : ByteArray)) (by kernel_rfl) hb5 ?_
   refine cQ ?_
   refine cR [0, 1, 2] (by kernel_rfl) ?_
   refine oC (Does.yi (Yl.load (d := 13) (T := 27) (v := .agg ([iv ud, .string ue, .string ub, .bool uf, iv ug, .slice ua uc.length uh] : LV).toArray) (by kernel_rfl) (ldBN ty27 (l := ([iv ud, .string ue, .string ub, .bool uf, iv ug, .slice ua uc.length uh] : LV)) (o := 0) (cs := ([iv ud, .string ue, .string ub, .bool uf, iv ug, .slice ua uc.length uh] : LV)) (pick2 _ _ _) (by kernel_rfl) (whole _ _ (by kernel_rfl)))) hI ?_)
   refine oC (dS (T := 27) (b := b2) (o := 0) (v := .agg ([iv ud, .string ue, .string ub, .bool uf, iv ug, .slice ua uc.length uh] : LV).toArray) (l := (([iv 0, .string (⟨#[]⟩ : ByteArray), .string (⟨#[]⟩ : ByteArray), .bool false, iv 0, .slice none 0 0] : LV))) (vs := ([iv ud, .string ue, .string ub, .bool uf, iv ug, .slice ua uc.length uh] : LV)) (L' := ([iv ud, .string ue, .string ub, .bool uf, iv ug, .slice ua uc.length uh] : LV)) (by kernel_rfl) ty27 hI (by kernel_rfl) (by kernel_rfl) (by kernel_rfl) (by kernel_rfl) (by kernel_rfl) ?_)
   intro w hI
   refine oP (r := []) [2] (S' := [(4, pb b2), (5, iv 1)]) (by kernel_rfl) ?_
   refine oD ?_
   refine qT ?_
   refine CodT.ret ?_
   refine Qn.block_ret ?_
   refine Qn.ret_then ?_
   have hL6 := (ldBN ty27 (l := ([iv ud, .string ue, .string ub, .bool uf, iv ug, .slice ua uc.length uh] : LV)) (o := 0) (cs := ([iv ud, .string ue, .string ub, .bool uf, iv ug, .slice ua uc.length uh] : LV)) (ent_refl _) (by kernel_rfl) (whole _ _ (by kernel_rfl))) w hI
   have hI := hI.drop
   have hI := hI.drop
   have e := someS h0
   subst e
   refine qK [4, 5] (S' := [(4, pb b2), (5, iv 1)]) (by kernel_rfl) ?_
   exact post_ret (v := .tuple #[.agg ([iv ud, .string ue, .string ub, .bool uf, iv ug, .slice ua uc.length uh] : LV).toArray, iv 1]) (fun a ha => RunRes.run (vs := [.agg ([iv ud, .string ue, .string ub, .bool uf, iv ug, .slice ua uc.length uh] : LV).toArray, iv 1]) (.cell (t := 4) (T := 27) (ad := ⟨b2, 0, none⟩) (by kernel_rfl) hL6 (.tmp (t := 5) (by kernel_rfl) .nil)) ha (by kernel_rfl)) ⟨ua, uh, Z, Hp.le_refl _, rfl, ui, hI⟩
  ·
   rw [if_neg hb5] at h0
   refine CodT.no' (b := seq a1 (⟨#[]⟩ : ByteArray)) (by kernel_rfl) (by simpa using hb5) ?_
   refine cQ ?_
   refine cR [0, 1, 2, 3, 4, 5, 6, 7] (by kernel_rfl) ?_
   refine oP (r := [1, 2, 3, 4, 5, 6, 7]) [0] (S' := [(1, .string a1), (2, pb b1), (4, pb b2), (15, .pointer (some ⟨b1, 2, none⟩))]) (by kernel_rfl) ?_
   refine oC (Does.yi (Yl.load (d := 16) (T := 9) (v := .string ub) (by kernel_rfl) (ldB ty9 (l := ([iv ud, .string ue, .string ub, .bool uf, iv ug, .slice ua uc.length uh] : LV)) (o := 2) (v := .string ub) (pick2 _ _ _) (by kernel_rfl))) hI ?_)
   refine oP (r := []) [2, 3, 4, 5, 6, 7] (S' := [(1, .string a1), (2, pb b1), (4, pb b2), (14, .bool (decide ((wi64 ((ub.size : Int) + (a1.size : Int))) > 600)))]) (by kernel_rfl) ?_
   refine oD ?_
   refine qT ?_
   by_cases hb7 : (decide ((wi64 ((ub.size : Int) + (a1.size : Int))) > 600)) = true
   ·
    rw [if_pos hb7] at h0
    refine CodT.yes' (b := decide ((wi64 ((ub.size : Int) + (a1.size : Int))) > 600)) (by kernel_rfl) hb7 ?_
    refine cQ ?_
    refine cR [0, 1, 2] (by kernel_rfl) ?_
    refine oC (Does.yi (Yl.load (d := 22) (T := 27) (v := .agg ([iv ud, .string ue, .string ub, .bool uf, iv ug, .slice ua uc.length uh] : LV).toArray) (by kernel_rfl) (ldBN ty27 (l := ([iv ud, .string ue, .string ub, .bool uf, iv ug, .slice ua uc.length uh] : LV)) (o := 0) (cs := ([iv ud, .string ue, .string ub, .bool uf, iv ug, .slice ua uc.length uh] : LV)) (pick2 _ _ _) (by kernel_rfl) (whole _ _ (by kernel_rfl)))) hI ?_)
    refine oC (dS (T := 27) (b := b2) (o := 0) (v := .agg ([iv ud, .string ue, .string ub, .bool uf, iv ug, .slice ua uc.length uh] : LV).toArray) (l := (([iv 0, .string (⟨#[]⟩ : ByteArray), .string (⟨#[]⟩ : ByteArray), .bool false, iv 0, .slice none 0 0] : LV))) (vs := ([iv ud, .string ue, .string ub, .bool uf, iv ug, .slice ua uc.length uh] : LV)) (L' := ([iv ud, .string ue, .string ub, .bool uf, iv ug, .slice ua uc.length uh] : LV)) (by kernel_rfl) ty27 hI (by kernel_rfl) (by kernel_rfl) (by kernel_rfl) (by kernel_rfl) (by kernel_rfl) ?_)
    intro w hI
    refine oP (r := []) [2] (S' := [(4, pb b2), (5, iv 10)]) (by kernel_rfl) ?_
    refine oD ?_
    refine qT ?_
    refine CodT.ret ?_
    refine Qn.block_ret ?_
    refine Qn.ret_then ?_
    have hL8 := (ldBN ty27 (l := ([iv ud, .string ue, .string ub, .bool uf, iv ug, .slice ua uc.length uh] : LV)) (o := 0) (cs := ([iv ud, .string ue, .string ub, .bool uf, iv ug, .slice ua uc.length uh] : LV)) (ent_refl _) (by kernel_rfl) (whole _ _ (by kernel_rfl))) w hI
    have hI := hI.drop
    have hI := hI.drop
    have e := someS h0
    subst e
    refine qK [4, 5] (S' := [(4, pb b2), (5, iv 10)]) (by kernel_rfl) ?_
    exact post_ret (v := .tuple #[.agg ([iv ud, .string ue, .string ub, .bool uf, iv ug, .slice ua uc.length uh] : LV).toArray, iv 10]) (fun a ha => RunRes.run (vs := [.agg ([iv ud, .string ue, .string ub, .bool uf, iv ug, .slice ua uc.length uh] : LV).toArray, iv 10]) (.cell (t := 4) (T := 27) (ad := ⟨b2, 0, none⟩) (by kernel_rfl) hL8 (.tmp (t := 5) (by kernel_rfl) .nil)) ha (by kernel_rfl)) ⟨ua, uh, Z, Hp.le_refl _, rfl, ui, hI⟩
   ·
    rw [if_neg hb7] at h0
    refine CodT.no' (b := decide ((wi64 ((ub.size : Int) + (a1.size : Int))) > 600)) (by kernel_rfl) (by simpa using hb7) ?_
    refine CodT.skip ?_
    refine Qn.block_normal ?_
    refine qT ?_
    refine cQ ?_
    refine cR [0, 1, 2, 3, 4, 5] (by kernel_rfl) ?_
    refine oP (r := [1, 2, 3, 4, 5]) [0] (S' := [(1, .string a1), (2, pb b1), (4, pb b2), (23, .pointer (some ⟨b1, 2, none⟩))]) (by kernel_rfl) ?_
    refine oC (Does.yi (Yl.load (d := 24) (T := 9) (v := .string ub) (by kernel_rfl) (ldB ty9 (l := ([iv ud, .string ue, .string ub, .bool uf, iv ug, .slice ua uc.length uh] : LV)) (o := 2) (v := .string ub) (pick2 _ _ _) (by kernel_rfl))) hI ?_)
    refine oP (r := [3, 4, 5]) [2] (S' := [(2, pb b1), (4, pb b2), (24, .string ub), (25, .string a1)]) (by kernel_rfl) ?_
    obtain ⟨hg9, h0⟩ := guardS h0
    refine oC (Does.yi (Yl.cat (d := 26) (T := 9) (x := ub) (y := a1) (by kernel_rfl) hg9) hI ?_)
    refine oP (r := [5]) [4] (S' := [(2, pb b1), (4, pb b2), (26, .string (ub ++ a1)), (27, .pointer (some ⟨b1, 2, none⟩))]) (by kernel_rfl) ?_
    have hI := hI.mono (pick2 _ _ _)
    refine oC (dS (T := 9) (b := b1) (o := 2) (v := .string (ub ++ a1)) (l := ([iv ud, .string ue, .string ub, .bool uf, iv ug, .slice ua uc.length uh] : LV)) (vs := ([.string (ub ++ a1)] : LV)) (L' := ([iv ud, .string ue, .string (ub ++ a1), .bool uf, iv ug, .slice ua uc.length uh] : LV)) (by kernel_rfl) ty9 hI (by kernel_rfl) (by kernel_rfl) (by kernel_rfl) (by kernel_rfl) (by kernel_rfl) ?_)
    intro w hI
    refine oD ?_
    refine qT ?_
    refine cQ ?_
    refine cR [0, 1, 2] (by kernel_rfl) ?_
    refine oC (Does.yi (Yl.load (d := 28) (T := 27) (v := .agg ([iv ud, .string ue, .string (ub ++ a1), .bool uf, iv ug, .slice ua uc.length uh] : LV).toArray) (by kernel_rfl) (ldBN ty27 (l := ([iv ud, .string ue, .string (ub ++ a1), .bool uf, iv ug, .slice ua uc.length uh] : LV)) (o := 0) (cs := ([iv ud, .string ue, .string (ub ++ a1), .bool uf, iv ug, .slice ua uc.length uh] : LV)) (ent_refl _) (by kernel_rfl) (whole _ _ (by kernel_rfl)))) hI ?_)
    have hI := hI.mono (pick2 _ _ _)
    refine oC (dS (T := 27) (b := b2) (o := 0) (v := .agg ([iv ud, .string ue, .string (ub ++ a1), .bool uf, iv ug, .slice ua uc.length uh] : LV).toArray) (l := (([iv 0, .string (⟨#[]⟩ : ByteArray), .string (⟨#[]⟩ : ByteArray), .bool false, iv 0, .slice none 0 0] : LV))) (vs := ([iv ud, .string ue, .string (ub ++ a1), .bool uf, iv ug, .slice ua uc.length uh] : LV)) (L' := ([iv ud, .string ue, .string (ub ++ a1), .bool uf, iv ug, .slice ua uc.length uh] : LV)) (by kernel_rfl) ty27 hI (by kernel_rfl) (by kernel_rfl) (by kernel_rfl) (by kernel_rfl) (by kernel_rfl) ?_)
    intro w hI
    refine oP (r := []) [2] (S' := [(4, pb b2), (5, iv 0)]) (by kernel_rfl) ?_
    refine oD ?_
    refine qT ?_
    refine CodT.ret ?_
    have hL10 := (ldBN ty27 (l := ([iv ud, .string ue, .string (ub ++ a1), .bool uf, iv ug, .slice ua uc.length uh] : LV)) (o := 0) (cs := ([iv ud, .string ue, .string (ub ++ a1), .bool uf, iv ug, .slice ua uc.length uh] : LV)) (ent_refl _) (by kernel_rfl) (whole _ _ (by kernel_rfl))) w hI
    have hI := hI.drop
    have hI := hI.drop
    have e := someS h0
    subst e
    refine qK [4, 5] (S' := [(4, pb b2), (5, iv 0)]) (by kernel_rfl) ?_
    exact post_ret (v := .tuple #[.agg ([iv ud, .string ue, .string (ub ++ a1), .bool uf, iv ug, .slice ua uc.length uh] : LV).toArray, iv 0]) (fun a ha => RunRes.run (vs := [.agg ([iv ud, .string ue, .string (ub ++ a1), .bool uf, iv ug, .slice ua uc.length uh] : LV).toArray, iv 0]) (.cell (t := 4) (T := 27) (ad := ⟨b2, 0, none⟩) (by kernel_rfl) hL10 (.tmp (t := 5) (by kernel_rfl) .nil)) ha (by kernel_rfl)) ⟨ua, uh, Z, Hp.le_refl _, rfl, ui, hI⟩
/-- cenotaph/file.deeds -/
theorem c49 (w0 w : World) (Z : Hp) (A : HP) (hI : Inv w0 Z w A) (hT : Tabs Z)  (r : Unit) (h0 : file_deeds = some r) :
  Calls prog 49 #[] w (fun e w' => ∃ (b1 : Nat), e = .returned (.map (some b1)) ∧ Inv w0 Z w' (star (pt b1 (mObj (fun x : Int => Value.int .i64 x) (fun v : Value => v) ([(1, .iface 78 (.func (.func 30) #[] #[])), (4, .iface 78 (.func (.func 22) #[] #[])), (5, .iface 78 (.func (.func 23) #[] #[])), (2, .iface 80 (.func (.func 20) #[] #[])), (3, .iface 80 (.func (.func 21) #[] #[])), (6, .iface 77 (.func (.func 13) #[] #[]))] : List (Int × Value)))) A)) := by
 have e4 := calls_intro (R := (fun e w' => ∃ (b1 : Nat), e = .returned (.map (some b1)) ∧ Inv w0 Z w' (star (pt b1 (mObj (fun x : Int => Value.int .i64 x) (fun v : Value => v) ([(1, .iface 78 (.func (.func 30) #[] #[])), (4, .iface 78 (.func (.func 22) #[] #[])), (5, .iface 78 (.func (.func 23) #[] #[])), (2, .iface 80 (.func (.func 20) #[] #[])), (3, .iface 80 (.func (.func 21) #[] #[])), (6, .iface 77 (.func (.func 13) #[] #[]))] : List (Int × Value)))) A))) (w := w) (args := []) (fn := Go.Proofs.Tryd.f49) 9 Go.Proofs.Tryd.func49 (by rfl) Go.Proofs.Tryd.ntmps49 (by kernel_rfl)
 refine e4 ?_
 clear e4
 unfold file_deeds at h0
 refine cQ ?_
 refine cR [0] (by kernel_rfl) ?_
 refine oP (r := []) [0] (S' := []) (by kernel_rfl) ?_
 refine oD ?_
 refine qT ?_
 refine cQ ?_
 refine cR [0, 1, 2, 3, 4, 5, 6, 7, 8, 9, 10, 11, 12, 13, 14] (by kernel_rfl) ?_
 refine oC (Does.makeMap (α := Int) (β := Value) (d := 1) (T := 75) (fun x : Int => Value.int .i64 x) (fun v : Value => v) (by kernel_rfl) hI ?_)
 intro b1 w hI
 refine oP (r := [2, 3, 4, 5, 6, 7, 8, 9, 10, 11, 12, 13, 14]) [1] (S' := [(1, .map (some b1)), (2, .iface 78 (.func (.func 30) #[] #[]))]) (by kernel_rfl) ?_
 refine oC (Does.mapUpdate (mt := 75) (b := b1) (kv := (fun x : Int => Value.int .i64 x)) (vv := (fun v : Value => v)) (m := ([] : List (Int × Value))) (k := 1) (x := .iface 78 (.func (.func 30) #[] #[])) (by kernel_rfl) kt46 Go.Proofs.Tryd.underlying75 hI ?_)
 intro w hI
 replace hI := hI.eqA (A' := (star (pt b1 (mObj (fun x : Int => Value.int .i64 x) (fun v : Value => v) ([(1, .iface 78 (.func (.func 30) #[] #[]))] : List (Int × Value)))) A)) (by kernel_rfl)
 refine oP (r := [4, 5, 6, 7, 8, 9, 10, 11, 12, 13, 14]) [3] (S' := [(1, .map (some b1)), (3, .iface 78 (.func (.func 22) #[] #[]))]) (by kernel_rfl) ?_
 refine oC (Does.mapUpdate (mt := 75) (b := b1) (kv := (fun x : Int => Value.int .i64 x)) (vv := (fun v : Value => v)) (m := ([(1, .iface 78 (.func (.func 30) #[] #[]))] : List (Int × Value))) (k := 4) (x := .iface 78 (.func (.func 22) #[] #[])) (by kernel_rfl) kt46 Go.Proofs.Tryd.underlying75 hI ?_)
 intro w hI
 replace hI := hI.eqA (A' := (star (pt b1 (mObj (fun x : Int => Value.int .i64 x) (fun v : Value => v) ([(1, .iface 78 (.func (.func 30) #[] #[])), (4, .iface 78 (.func (.func 22) #[] #[]))] : List (Int × Value)))) A)) (by kernel_rfl)
 refine oP (r := [6, 7, 8, 9, 10, 11, 12, 13, 14]) [5] (S' := [(1, .map (some b1)), (4, .iface 78 (.func (.func 23) #[] #[]))]) (by kernel_rfl) ?_
 refine oC (Does.mapUpdate (mt := 75) (b := b1) (kv := (fun x : Int => Value.int .i64 x)) (vv := (fun v : Value => v)) (m := ([(1, .iface 78 (.func (.func 30) #[] #[])), (4, .iface 78 (.func (.func 22) #[] #[]))] : List (Int × Value))) (k := 5) (x := .iface 78 (.func (.func 23) #[] #[])) (by kernel_rfl) kt46 Go.Proofs.Tryd.underlying75 hI ?_)
 intro w hI
 replace hI := hI.eqA (A' := (star (pt b1 (mObj (fun x : Int => Value.int .i64 x) (fun v : Value => v) ([(1, .iface 78 (.func (.func 30) #[] #[])), (4, .iface 78 (.func (.func 22) #[] #[])), (5, .iface 78 (.func (.func 23) #[] #[]))] : List (Int × Value)))) A)) (by kernel_rfl)
 refine oP (r := [8, 9, 10, 11, 12, 13, 14]) [7] (S' := [(1, .map (some b1)), (5, .iface 80 (.func (.func 20) #[] #[]))]) (by kernel_rfl) ?_
 refine oC (Does.mapUpdate (mt := 75) (b := b1) (kv := (fun x : Int => Value.int .i64 x)) (vv := (fun v : Value => v)) (m := ([(1, .iface 78 (.func (.func 30) #[] #[])), (4, .iface 78 (.func (.func 22) #[] #[])), (5, .iface 78 (.func (.func 23) #[] #[]))] : List (Int × Value))) (k := 2) (x := .iface 80 (.func (.func 20) #[] #[])) (by kernel_rfl) kt46 Go.Proofs.Tryd.underlying75 hI ?_)
 intro w hI
 replace hI := hI.eqA (A' := (star (pt b1 (mObj (fun x : Int => Value.int .i64 x) (fun v : Value => v) ([(1, .iface 78 (.func (.func 30) #[] #[])), (4, .iface 78 (.func (.func 22) #[] #[])), (5, .iface 78 (.func (.func 23) #[] #[])), (2, .iface 80 (.func (.func 20) #[] #[]))] : List (Int × Value)))) A)) (by kernel_rfl)
 refine oP (r := [10, 11, 12, 13, 14]) [9] (S' := [(1, .map (some b1)), (6, .iface 80 (.func (.func 21) #[] #[]))]) (by kernel_rfl) ?_
 refine oC (Does.mapUpdate (mt := 75) (b := b1) (kv := (fun x : Int => Value.int .i64 x)) (vv := (fun v : Value => v)) (m := ([(1, .iface 78 (.func (.func 30) #[] #[])), (4, .iface 78 (.func (.func 22) #[] #[])), (5, .iface 78 (.func (.func 23) #[] #[])), (2, .iface 80 (.func (.func 20) #[] #[]))] : List (Int × Value))) (k := 3) (x := .iface 80 (.func (.func 21) #[] #[])) (by kernel_rfl) kt46 Go.Proofs.Tryd.underlying75 hI ?_)
 intro w hI
 replace hI := hI.eqA (A' := (star (pt b1 (mObj (fun x : Int => Value.int .i64 x) (fun v : Value => v) ([(1, .iface 78 (.func (.func 30) #[] #[])), (4, .iface 78 (.func (.func 22) #[] #[])), (5, .iface 78 (.func (.func 23) #[] #[])), (2, .iface 80 (.func (.func 20) #[] #[])), (3, .iface 80 (.func (.func 21) #[] #[]))] : List (Int × Value)))) A)) (by kernel_rfl)
 refine oP (r := [12, 13, 14]) [11] (S' := [(1, .map (some b1)), (7, .iface 77 (.func (.func 13) #[] #[]))]) (by kernel_rfl) ?_
 refine oC (Does.mapUpdate (mt := 75) (b := b1) (kv := (fun x : Int => Value.int .i64 x)) (vv := (fun v : Value => v)) (m := ([(1, .iface 78 (.func (.func 30) #[] #[])), (4, .iface 78 (.func (.func 22) #[] #[])), (5, .iface 78 (.func (.func 23) #[] #[])), (2, .iface 80 (.func (.func 20) #[] #[])), (3, .iface 80 (.func (.func 21) #[] #[]))] : List (Int × Value))) (k := 6) (x := .iface 77 (.func (.func 13) #[] #[])) (by kernel_rfl) kt46 Go.Proofs.Tryd.underlying75 hI ?_)
 intro w hI
 replace hI := hI.eqA (A' := (star (pt b1 (mObj (fun x : Int => Value.int .i64 x) (fun v : Value => v) ([(1, .iface 78 (.func (.func 30) #[] #[])), (4, .iface 78 (.func (.func 22) #[] #[])), (5, .iface 78 (.func (.func 23) #[] #[])), (2, .iface 80 (.func (.func 20) #[] #[])), (3, .iface 80 (.func (.func 21) #[] #[])), (6, .iface 77 (.func (.func 13) #[] #[]))] : List (Int × Value)))) A)) (by kernel_rfl)
 refine oP (r := []) [13, 14] (S' := [(0, .map (some b1))]) (by kernel_rfl) ?_
 refine oD ?_
 refine qT ?_
 refine CodT.ret ?_
 have e := someS h0
 subst e
 refine qK [0] (S' := [(0, .map (some b1))]) (by kernel_rfl) ?_
 exact post_ret (v := .map (some b1)) (fun a ha => RunRes.run (vs := [.map (some b1)]) (.tmp (t := 0) (by kernel_rfl) .nil) ha (by kernel_rfl)) ⟨b1, rfl, hI⟩
/-- cenotaph/sha.prime -/
theorem c82 (w0 w : World) (Z : Hp) (A : HP) (hI : Inv w0 Z w A) (hT : Tabs Z) (a0 : Int) (r : Bool) (h0 : sha_prime a0 = some r) :
  Calls prog 82 #[iv a0] w (fun e w' => e = .returned (.bool r) ∧ Inv w0 Z w' A) := by
 have e4 := calls_intro (R := (fun e w' => e = .returned (.bool r) ∧ Inv w0 Z w' A)) (w := w) (args := [iv a0]) (fn := Go.Proofs.Tryd.f82) 17 Go.Proofs.Tryd.func82 (by rfl) Go.Proofs.Tryd.ntmps82 (by kernel_rfl)
 refine e4 ?_
 clear e4
 unfold sha_prime at h0
 refine cQ ?_
 refine cR [0] (by kernel_rfl) ?_
 refine oP (r := []) [0] (S' := [(0, iv a0)]) (by kernel_rfl) ?_
 refine oD ?_
 refine qT ?_
 refine cQ ?_
 refine cQ ?_
 refine cR [0] (by kernel_rfl) ?_
 refine oP (r := []) [0] (S' := [(0, iv a0), (3, iv 2)]) (by kernel_rfl) ?_
 refine oD ?_
 refine qT ?_
 obtain ⟨r1, h1, h0⟩ := bindS h0
 refine CodT.meet1 (fun a w => .inr () = r1 ∧ Fr 17 [(0, iv a0)] a ∧ Inv w0 Z w A) ?_ ?_
 ·
  refine CodT.block ?_
  refine (fun a ha => wp_loopN (fun k a w => ∃ (x1 : Int), sha_prime.l0 a0 k x1 = some r1 ∧ Fr 17 [(0, iv a0), (3, iv x1)] a ∧ Inv w0 Z w A) ?_ FU a w ⟨2, h1, ha.keep [0, 3] (by kernel_rfl), hI⟩)
  clear h1 hI
  rintro k a w ⟨x1, h1, ha, hI⟩
  rcases k with _ | k
  ·
   cases h1
  simp only [sha_prime.l0] at h1
  refine CodT.of ?_ ha
  refine cQ ?_
  refine cQ ?_
  refine cR [0, 1, 2, 3, 4] (by kernel_rfl) ?_
  refine oP (r := []) [0, 1, 2, 3, 4] (S' := [(0, iv a0), (3, iv x1), (8, .bool (decide ((wi64 (x1 * x1)) ≤ a0)))]) (by kernel_rfl) ?_
  refine oD ?_
  refine qT ?_
  by_cases hb2 : (decide ((wi64 (x1 * x1)) ≤ a0)) = true
  ·
   rw [if_pos hb2] at h1
   refine CodT.yes' (b := decide ((wi64 (x1 * x1)) ≤ a0)) (by kernel_rfl) hb2 ?_
   refine CodT.skip ?_
   refine qT ?_
   refine cQ ?_
   refine CodT.block ?_
   refine cQ ?_
   refine cR [0, 1, 2, 3] (by kernel_rfl) ?_
   refine oP (r := [2, 3]) [0, 1] (S' := [(0, iv a0), (3, iv x1), (11, iv a0), (12, iv x1)]) (by kernel_rfl) ?_
   obtain ⟨hg3, h1⟩ := guardS h1
   refine oC (Does.yi (Yl.rem (d := 13) (T := 3) (k := .i64) (x := a0) (y := x1) (by kernel_rfl) hg3) hI ?_)
   refine oP (r := []) [3] (S' := [(0, iv a0), (3, iv x1), (14, .bool ((a0.tmod x1) == 0))]) (by kernel_rfl) ?_
   refine oD ?_
   refine qT ?_
   by_cases hb4 : ((a0.tmod x1) == 0) = true
   ·
    rw [if_pos hb4] at h1
    refine CodT.yes' (b := (a0.tmod x1) == 0) (by kernel_rfl) hb4 ?_
    refine cQ ?_
    refine cR [0] (by kernel_rfl) ?_
    refine oP (r := []) [0] (S' := [(2, .bool false)]) (by kernel_rfl) ?_
    refine oD ?_
    refine qT ?_
    refine CodT.ret ?_
    refine Qn.block_ret ?_
    refine Qn.ret_then ?_
    refine Qn.ret_then ?_
    refine Qn.block_ret ?_
    refine Qn.ret_then ?_
    refine Qn.ret_then ?_
    have e := someS h1
    subst e
    try dsimp only at h0
    have e := someS h0
    subst e
    refine qK [2] (S' := [(2, .bool false)]) (by kernel_rfl) ?_
    exact post_ret (v := .bool false) (fun a ha => RunRes.run (vs := [.bool false]) (.tmp (t := 2) (by kernel_rfl) .nil) ha (by kernel_rfl)) ⟨rfl, hI⟩
   ·
    rw [if_neg hb4] at h1
    refine CodT.no' (b := (a0.tmod x1) == 0) (by kernel_rfl) (by simpa using hb4) ?_
    refine CodT.skip ?_
    refine Qn.block_normal ?_
    refine qT ?_
    refine cR [0, 1, 2] (by kernel_rfl) ?_
    refine oP (r := []) [0, 1, 2] (S' := [(0, iv a0), (3, iv (wi64 (x1 + 1)))]) (by kernel_rfl) ?_
    refine oD ?_
    exact Qn.thenJ fun a ha => ⟨k, Nat.lt_succ_self k, wi64 (x1 + 1), h1, ha.keep [0, 3] (by kernel_rfl), hI⟩
  ·
   rw [if_neg hb2] at h1
   refine CodT.no' (b := decide ((wi64 (x1 * x1)) ≤ a0)) (by kernel_rfl) (by simpa using hb2) ?_
   refine CodT.exit ?_
   refine Qn.exit_then ?_
   refine Qn.exit_then ?_
   refine Qn.block ?_
   have e := someS h1
   subst e
   exact Qn.thenJ fun a ha => ⟨rfl, ha.keep [0] (by kernel_rfl), hI⟩
 ·
  rintro a w ⟨rfl, ha, hI⟩
  try dsimp only at h0
  refine Qn.of ?_ ha
  refine qT ?_
  refine cQ ?_
  refine cR [0, 1, 2] (by kernel_rfl) ?_
  refine oP (r := []) [0, 1, 2] (S' := [(2, .bool (decide (a0 > 1)))]) (by kernel_rfl) ?_
  refine oD ?_
  refine qT ?_
  refine CodT.ret ?_
  have e := someS h0
  subst e
  refine qK [2] (S' := [(2, .bool (decide (a0 > 1)))]) (by kernel_rfl) ?_
  exact post_ret (v := .bool (decide (a0 > 1))) (fun a ha => RunRes.run (vs := [.bool (decide (a0 > 1))]) (.tmp (t := 2) (by kernel_rfl) .nil) ha (by kernel_rfl)) ⟨rfl, hI⟩
/-- math/bits.Mul64 -/
theorem c90 (w0 w : World) (Z : Hp) (A : HP) (hI : Inv w0 Z w A) (hT : Tabs Z) (a0 : Int) (a1 : Int) (r : (Int × Int)) (h0 : bits_Mul64 a0 a1 = some r) :
  Calls prog 90 #[.int .u64 a0, .int .u64 a1] w (fun e w' => e = .returned (.tuple #[.int .u64 r.1, .int .u64 r.2]) ∧ Inv w0 Z w' A) := by
 have e4 := calls_intro (R := (fun e w' => e = .returned (.tuple #[.int .u64 r.1, .int .u64 r.2]) ∧ Inv w0 Z w' A)) (w := w) (args := [.int .u64 a0, .int .u64 a1]) (fn := Go.Proofs.Tryd.f90) 51 Go.Proofs.Tryd.func90 (by rfl) Go.Proofs.Tryd.ntmps90 (by kernel_rfl)
 refine e4 ?_
 clear e4
 unfold bits_Mul64 at h0
 refine cQ ?_
 refine cR [0, 1] (by kernel_rfl) ?_
 refine oP (r := []) [0, 1] (S' := [(0, .int .u64 a0), (1, .int .u64 a1)]) (by kernel_rfl) ?_
 refine oD ?_
 refine qT ?_
 refine cQ ?_
 refine cR [0, 1, 2] (by kernel_rfl) ?_
 refine oP (r := []) [0, 1, 2] (S' := [(0, .int .u64 a0), (1, .int .u64 a1), (6, .int .u64 (bAnd .u64 a0 4294967295))]) (by kernel_rfl) ?_
 refine oD ?_
 refine qT ?_
 refine cQ ?_
 refine cR [0, 1, 2] (by kernel_rfl) ?_
 refine oP (r := []) [0, 1, 2] (S' := [(0, .int .u64 a0), (1, .int .u64 a1), (6, .int .u64 (bAnd .u64 a0 4294967295)), (7, .int .u64 (bShr .u64 a0 32))]) (by kernel_rfl) ?_
 refine oD ?_
 refine qT ?_
 refine cQ ?_
 refine cR [0, 1, 2] (by kernel_rfl) ?_
 refine oP (r := []) [0, 1, 2] (S' := [(0, .int .u64 a0), (1, .int .u64 a1), (6, .int .u64 (bAnd .u64 a0 4294967295)), (7, .int .u64 (bShr .u64 a0 32)), (8, .int .u64 (bAnd .u64 a1 4294967295))]) (by kernel_rfl) ?_
 refine oD ?_
 refine qT ?_
 refine cQ ?_
 refine cR [0, 1, 2] (by kernel_rfl) ?_
 refine oP (r := []) [0, 1, 2] (S' := [(0, .int .u64 a0), (1, .int .u64 a1), (6, .int .u64 (bAnd .u64 a0 4294967295)), (7, .int .u64 (bShr .u64 a0 32)), (8, .int .u64 (bAnd .u64 a1 4294967295)), (9, .int .u64 (bShr .u64 a1 32))]) (by kernel_rfl) ?_
 refine oD ?_
 refine qT ?_
 refine cQ ?_
 refine cR [0, 1, 2, 3] (by kernel_rfl) ?_
 refine oP (r := []) [0, 1, 2, 3] (S' := [(0, .int .u64 a0), (1, .int .u64 a1), (6, .int .u64 (bAnd .u64 a0 4294967295)), (7, .int .u64 (bShr .u64 a0 32)), (8, .int .u64 (bAnd .u64 a1 4294967295)), (9, .int .u64 (bShr .u64 a1 32)), (10, .int .u64 (wu64 ((bAnd .u64 a0 4294967295) * (bAnd .u64 a1 4294967295))))]) (by kernel_rfl) ?_
 refine oD ?_
 refine qT ?_
 refine cQ ?_
 refine cR [0, 1, 2, 3, 4, 5, 6] (by kernel_rfl) ?_
 refine oP (r := []) [0, 1, 2, 3, 4, 5, 6] (S' := [(0, .int .u64 a0), (1, .int .u64 a1), (6, .int .u64 (bAnd .u64 a0 4294967295)), (7, .int .u64 (bShr .u64 a0 32)), (9, .int .u64 (bShr .u64 a1 32)), (11, .int .u64 (wu64 ((wu64 ((bShr .u64 a0 32) * (bAnd .u64 a1 4294967295))) + (bShr .u64 (wu64 ((bAnd .u64 a0 4294967295) * (bAnd .u64 a1 4294967295))) 32))))]) (by kernel_rfl) ?_
 refine oD ?_
 refine qT ?_
 refine cQ ?_
 refine cR [0, 1, 2] (by kernel_rfl) ?_
 refine oP (r := []) [0, 1, 2] (S' := [(0, .int .u64 a0), (1, .int .u64 a1), (6, .int .u64 (bAnd .u64 a0 4294967295)), (7, .int .u64 (bShr .u64 a0 32)), (9, .int .u64 (bShr .u64 a1 32)), (11, .int .u64 (wu64 ((wu64 ((bShr .u64 a0 32) * (bAnd .u64 a1 4294967295))) + (bShr .u64 (wu64 ((bAnd .u64 a0 4294967295) * (bAnd .u64 a1 4294967295))) 32)))), (12, .int .u64 (bAnd .u64 (wu64 ((wu64 ((bShr .u64 a0 32) * (bAnd .u64 a1 4294967295))) + (bShr .u64 (wu64 ((bAnd .u64 a0 4294967295) * (bAnd .u64 a1 4294967295))) 32))) 4294967295))]) (by kernel_rfl) ?_
 refine oD ?_
 refine qT ?_
 refine cQ ?_
 refine cR [0, 1, 2] (by kernel_rfl) ?_
 refine oP (r := []) [0, 1, 2] (S' := [(0, .int .u64 a0), (1, .int .u64 a1), (6, .int .u64 (bAnd .u64 a0 4294967295)), (7, .int .u64 (bShr .u64 a0 32)), (9, .int .u64 (bShr .u64 a1 32)), (12, .int .u64 (bAnd .u64 (wu64 ((wu64 ((bShr .u64 a0 32) * (bAnd .u64 a1 4294967295))) + (bShr .u64 (wu64 ((bAnd .u64 a0 4294967295) * (bAnd .u64 a1 4294967295))) 32))) 4294967295)), (13, .int .u64 (bShr .u64 (wu64 ((wu64 ((bShr .u64 a0 32) * (bAnd .u64 a1 4294967295))) + (bShr .u64 (wu64 ((bAnd .u64 a0 4294967295) * (bAnd .u64 a1 4294967295))) 32))) 32))]) (by kernel_rfl) ?_
 refine oD ?_
 refine qT ?_
 refine cQ ?_
 refine cR [0, 1, 2, 3, 4, 5] (by kernel_rfl) ?_
 refine oP (r := []) [0, 1, 2, 3, 4, 5] (S' := [(0, .int .u64 a0), (1, .int .u64 a1), (7, .int .u64 (bShr .u64 a0 32)), (9, .int .u64 (bShr .u64 a1 32)), (12, .int .u64 (wu64 ((bAnd .u64 (wu64 ((wu64 ((bShr .u64 a0 32) * (bAnd .u64 a1 4294967295))) + (bShr .u64 (wu64 ((bAnd .u64 a0 4294967295) * (bAnd .u64 a1 4294967295))) 32))) 4294967295) + (wu64 ((bAnd .u64 a0 4294967295) * (bShr .u64 a1 32)))))), (13, .int .u64 (bShr .u64 (wu64 ((wu64 ((bShr .u64 a0 32) * (bAnd .u64 a1 4294967295))) + (bShr .u64 (wu64 ((bAnd .u64 a0 4294967295) * (bAnd .u64 a1 4294967295))) 32))) 32))]) (by kernel_rfl) ?_
 refine oD ?_
 refine qT ?_
 refine cQ ?_
 refine cR [0, 1, 2, 3, 4, 5, 6, 7, 8] (by kernel_rfl) ?_
 refine oP (r := []) [0, 1, 2, 3, 4, 5, 6, 7, 8] (S' := [(0, .int .u64 a0), (1, .int .u64 a1), (4, .int .u64 (wu64 ((wu64 ((wu64 ((bShr .u64 a0 32) * (bShr .u64 a1 32))) + (bShr .u64 (wu64 ((wu64 ((bShr .u64 a0 32) * (bAnd .u64 a1 4294967295))) + (bShr .u64 (wu64 ((bAnd .u64 a0 4294967295) * (bAnd .u64 a1 4294967295))) 32))) 32))) + (bShr .u64 (wu64 ((bAnd .u64 (wu64 ((wu64 ((bShr .u64 a0 32) * (bAnd .u64 a1 4294967295))) + (bShr .u64 (wu64 ((bAnd .u64 a0 4294967295) * (bAnd .u64 a1 4294967295))) 32))) 4294967295) + (wu64 ((bAnd .u64 a0 4294967295) * (bShr .u64 a1 32))))) 32))))]) (by kernel_rfl) ?_
 refine oD ?_
 refine qT ?_
 refine cQ ?_
 refine cR [0, 1, 2, 3] (by kernel_rfl) ?_
 refine oP (r := []) [0, 1, 2, 3] (S' := [(4, .int .u64 (wu64 ((wu64 ((wu64 ((bShr .u64 a0 32) * (bShr .u64 a1 32))) + (bShr .u64 (wu64 ((wu64 ((bShr .u64 a0 32) * (bAnd .u64 a1 4294967295))) + (bShr .u64 (wu64 ((bAnd .u64 a0 4294967295) * (bAnd .u64 a1 4294967295))) 32))) 32))) + (bShr .u64 (wu64 ((bAnd .u64 (wu64 ((wu64 ((bShr .u64 a0 32) * (bAnd .u64 a1 4294967295))) + (bShr .u64 (wu64 ((bAnd .u64 a0 4294967295) * (bAnd .u64 a1 4294967295))) 32))) 4294967295) + (wu64 ((bAnd .u64 a0 4294967295) * (bShr .u64 a1 32))))) 32)))), (5, .int .u64 (wu64 (a0 * a1)))]) (by kernel_rfl) ?_
 refine oD ?_
 refine qT ?_
 refine CodT.ret ?_
 have e := someS h0
 subst e
 refine qK [4, 5] (S' := [(4, .int .u64 (wu64 ((wu64 ((wu64 ((bShr .u64 a0 32) * (bShr .u64 a1 32))) + (bShr .u64 (wu64 ((wu64 ((bShr .u64 a0 32) * (bAnd .u64 a1 4294967295))) + (bShr .u64 (wu64 ((bAnd .u64 a0 4294967295) * (bAnd .u64 a1 4294967295))) 32))) 32))) + (bShr .u64 (wu64 ((bAnd .u64 (wu64 ((wu64 ((bShr .u64 a0 32) * (bAnd .u64 a1 4294967295))) + (bShr .u64 (wu64 ((bAnd .u64 a0 4294967295) * (bAnd .u64 a1 4294967295))) 32))) 4294967295) + (wu64 ((bAnd .u64 a0 4294967295) * (bShr .u64 a1 32))))) 32)))), (5, .int .u64 (wu64 (a0 * a1)))]) (by kernel_rfl) ?_
 exact post_ret (v := .tuple #[.int .u64 (wu64 ((wu64 ((wu64 ((bShr .u64 a0 32) * (bShr .u64 a1 32))) + (bShr .u64 (wu64 ((wu64 ((bShr .u64 a0 32) * (bAnd .u64 a1 4294967295))) + (bShr .u64 (wu64 ((bAnd .u64 a0 4294967295) * (bAnd .u64 a1 4294967295))) 32))) 32))) + (bShr .u64 (wu64 ((bAnd .u64 (wu64 ((wu64 ((bShr .u64 a0 32) * (bAnd .u64 a1 4294967295))) + (bShr .u64 (wu64 ((bAnd .u64 a0 4294967295) * (bAnd .u64 a1 4294967295))) 32))) 4294967295) + (wu64 ((bAnd .u64 a0 4294967295) * (bShr .u64 a1 32))))) 32))), .int .u64 (wu64 (a0 * a1))]) (fun a ha => RunRes.run (vs := [.int .u64 (wu64 ((wu64 ((wu64 ((bShr .u64 a0 32) * (bShr .u64 a1 32))) + (bShr .u64 (wu64 ((wu64 ((bShr .u64 a0 32) * (bAnd .u64 a1 4294967295))) + (bShr .u64 (wu64 ((bAnd .u64 a0 4294967295) * (bAnd .u64 a1 4294967295))) 32))) 32))) + (bShr .u64 (wu64 ((bAnd .u64 (wu64 ((wu64 ((bShr .u64 a0 32) * (bAnd .u64 a1 4294967295))) + (bShr .u64 (wu64 ((bAnd .u64 a0 4294967295) * (bAnd .u64 a1 4294967295))) 32))) 4294967295) + (wu64 ((bAnd .u64 a0 4294967295) * (bShr .u64 a1 32))))) 32))), .int .u64 (wu64 (a0 * a1))]) (.tmp (t := 4) (by kernel_rfl) (.tmp (t := 5) (by kernel_rfl) .nil)) ha (by kernel_rfl)) ⟨rfl, hI⟩
/-- cenotaph/sha.fits -/
theorem c87 (w0 w : World) (Z : Hp) (A : HP) (hI : Inv w0 Z w A) (hT : Tabs Z) (a0 : Int) (a1 : Int) (a2 : Int) (r : Bool) (h0 : sha_fits a0 a1 a2 = some r) :
  Calls prog 87 #[.int .u64 a0, .int .u64 a1, iv a2] w (fun e w' => e = .returned (.bool r) ∧ Inv w0 Z w' A) := by
 have e4 := calls_intro (R := (fun e w' => e = .returned (.bool r) ∧ Inv w0 Z w' A)) (w := w) (args := [.int .u64 a0, .int .u64 a1, iv a2]) (fn := Go.Proofs.Tryd.f87) 80 Go.Proofs.Tryd.func87 (by rfl) Go.Proofs.Tryd.ntmps87 (by kernel_rfl)
 refine e4 ?_
 clear e4
 unfold sha_fits at h0
 refine cQ ?_
 refine cR [0] (by kernel_rfl) ?_
 refine oP (r := []) [0] (S' := [(0, .int .u64 a0), (1, .int .u64 a1), (2, iv a2)]) (by kernel_rfl) ?_
 refine oD ?_
 refine qT ?_
 refine cQ ?_
 refine cR [0, 1, 2, 3, 4, 5, 6, 7] (by kernel_rfl) ?_
 refine oP (r := [2, 3, 4, 5, 6, 7]) [0, 1] (S' := [(0, .int .u64 a0), (1, .int .u64 a1), (2, iv a2), (18, .int .u64 a0), (19, .int .u64 a0)]) (by kernel_rfl) ?_
 obtain ⟨⟨y2, y3⟩, hc1, h0⟩ := bindS h0
 try dsimp only at h0
 refine oC (Does.call (d := some 20) (n := 90) (vs := [.int .u64 a0, .int .u64 a0]) (by kernel_rfl) en90 (c90 w0 w _ _ hI hT a0 a0 _ hc1) ?_)
 rintro e w ⟨rfl, hI⟩
 refine ⟨_, rfl, ?_⟩
 refine oP (r := []) [3, 4, 5, 6, 7] (S' := [(0, .int .u64 a0), (1, .int .u64 a1), (2, iv a2), (7, .int .u64 y2), (8, .int .u64 y3)]) (by kernel_rfl) ?_
 refine oD ?_
 refine qT ?_
 refine cQ ?_
 refine cQ ?_
 refine cR [0, 1] (by kernel_rfl) ?_
 refine oP (r := []) [0, 1] (S' := [(0, .int .u64 a0), (1, .int .u64 a1), (7, .int .u64 y2), (8, .int .u64 y3), (24, .bool (a2 == 2))]) (by kernel_rfl) ?_
 refine oD ?_
 refine qT ?_
 by_cases hb4 : (a2 == 2) = true
 ·
  rw [if_pos hb4] at h0
  refine CodT.yes' (b := a2 == 2) (by kernel_rfl) hb4 ?_
  obtain ⟨r1, h1, h0⟩ := bindS h0
  refine CodT.meet (fun a w => ∃ (x5 : Bool), x5 = r1 ∧ Fr 80 [(6, .bool x5)] a ∧ Inv w0 Z w A) ?_ ?_
  ·
   refine cR [0, 1, 2, 3, 4, 5, 6, 7, 8, 9, 10, 11, 12] (by kernel_rfl) ?_
   refine oP (r := [4, 5, 6, 7, 8, 9, 10, 11, 12]) [0, 1, 2, 3] (S' := [(1, .int .u64 a1), (7, .int .u64 y2), (8, .int .u64 y3), (28, .bool (decide (y2 < a1)))]) (by kernel_rfl) ?_
   by_cases hb6 : (decide (y2 < a1)) = true
   ·
    rw [if_pos hb6] at h1
    refine oK [1, 7, 8, 28] (S' := [(1, .int .u64 a1), (7, .int .u64 y2), (8, .int .u64 y3), (28, .bool true)]) (by (try simp only [hb6]); kernel_rfl) ?_
    refine oP (r := []) [4, 5, 6, 7, 8, 9, 10, 11, 12] (S' := [(6, .bool true)]) (by kernel_rfl) ?_
    refine oD ?_
    have e := someS h1
    subst e
    exact Qn.thenJ fun a ha => ⟨true, rfl, ha.keep [6] (by kernel_rfl), hI⟩
   ·
    rw [if_neg hb6] at h1
    have hb6 : (decide (y2 < a1)) = false := by simpa using hb6
    refine oK [1, 7, 8, 28] (S' := [(1, .int .u64 a1), (7, .int .u64 y2), (8, .int .u64 y3), (28, .bool false)]) (by (try simp only [hb6]); kernel_rfl) ?_
    refine oP (r := [8, 9, 10, 11, 12]) [4, 5, 6, 7] (S' := [(8, .int .u64 y3), (28, .bool false), (32, .bool (y2 == a1))]) (by kernel_rfl) ?_
    by_cases hb7 : (y2 == a1) = true
    ·
     rw [if_pos hb7] at h1
     refine oK [8, 28, 32] (S' := [(8, .int .u64 y3), (28, .bool false), (32, .bool true)]) (by (try simp only [hb7]); kernel_rfl) ?_
     refine oP (r := []) [8, 9, 10, 11, 12] (S' := [(6, .bool (y3 == 0))]) (by kernel_rfl) ?_
     refine oD ?_
     have e := someS h1
     subst e
     exact Qn.thenJ fun a ha => ⟨y3 == 0, rfl, ha.keep [6] (by kernel_rfl), hI⟩
    ·
     rw [if_neg hb7] at h1
     have hb7 : (y2 == a1) = false := by simpa using hb7
     refine oK [8, 28, 32] (S' := [(8, .int .u64 y3), (28, .bool false), (32, .bool false)]) (by (try simp only [hb7]); kernel_rfl) ?_
     refine oP (r := []) [8, 9, 10, 11, 12] (S' := [(6, .bool false)]) (by kernel_rfl) ?_
     refine oD ?_
     have e := someS h1
     subst e
     exact Qn.thenJ fun a ha => ⟨false, rfl, ha.keep [6] (by kernel_rfl), hI⟩
  ·
   rintro a w ⟨x5, rfl, ha, hI⟩
   try dsimp only at h0
   refine CodT.of ?_ ha
   refine CodT.ret ?_
   refine Qn.ret_then ?_
   have e := someS h0
   subst e
   refine qK [6] (S' := [(6, .bool x5)]) (by kernel_rfl) ?_
   exact post_ret (v := .bool x5) (fun a ha => RunRes.run (vs := [.bool x5]) (.tmp (t := 6) (by kernel_rfl) .nil) ha (by kernel_rfl)) ⟨rfl, hI⟩
 ·
  rw [if_neg hb4] at h0
  refine CodT.no' (b := a2 == 2) (by kernel_rfl) (by simpa using hb4) ?_
  refine CodT.skip ?_
  refine qT ?_
  refine cQ ?_
  refine cR [0, 1, 2, 3, 4, 5, 6, 7] (by kernel_rfl) ?_
  refine oP (r := [2, 3, 4, 5, 6, 7]) [0, 1] (S' := [(0, .int .u64 a0), (1, .int .u64 a1), (7, .int .u64 y2), (38, .int .u64 y3), (39, .int .u64 a0)]) (by kernel_rfl) ?_
  obtain ⟨⟨y9, y10⟩, hc8, h0⟩ := bindS h0
  try dsimp only at h0
  refine oC (Does.call (d := some 40) (n := 90) (vs := [.int .u64 y3, .int .u64 a0]) (by kernel_rfl) en90 (c90 w0 w _ _ hI hT y3 a0 _ hc8) ?_)
  rintro e w ⟨rfl, hI⟩
  refine ⟨_, rfl, ?_⟩
  refine oP (r := []) [3, 4, 5, 6, 7] (S' := [(0, .int .u64 a0), (1, .int .u64 a1), (7, .int .u64 y2), (9, .int .u64 y9), (10, .int .u64 y10)]) (by kernel_rfl) ?_
  refine oD ?_
  refine qT ?_
  refine cQ ?_
  refine cR [0, 1, 2, 3, 4, 5, 6, 7] (by kernel_rfl) ?_
  refine oP (r := [2, 3, 4, 5, 6, 7]) [0, 1] (S' := [(1, .int .u64 a1), (9, .int .u64 y9), (10, .int .u64 y10), (44, .int .u64 y2), (45, .int .u64 a0)]) (by kernel_rfl) ?_
  obtain ⟨⟨y12, y13⟩, hc11, h0⟩ := bindS h0
  try dsimp only at h0
  refine oC (Does.call (d := some 46) (n := 90) (vs := [.int .u64 y2, .int .u64 a0]) (by kernel_rfl) en90 (c90 w0 w _ _ hI hT y2 a0 _ hc11) ?_)
  rintro e w ⟨rfl, hI⟩
  refine ⟨_, rfl, ?_⟩
  refine oP (r := []) [3, 4, 5, 6, 7] (S' := [(1, .int .u64 a1), (9, .int .u64 y9), (10, .int .u64 y10), (11, .int .u64 y12), (12, .int .u64 y13)]) (by kernel_rfl) ?_
  refine oD ?_
  refine qT ?_
  refine cQ ?_
  refine cR [0, 1, 2, 3, 4, 5, 6, 7] (by kernel_rfl) ?_
  refine oP (r := [2, 3, 4, 5, 6, 7]) [0, 1] (S' := [(1, .int .u64 a1), (10, .int .u64 y10), (11, .int .u64 y12), (50, .int .u64 y9), (51, .int .u64 y13)]) (by kernel_rfl) ?_
  refine oC (Does.ext (d := some 52) (n := 91) (vs := [.int .u64 y9, .int .u64 y13, .int .u64 0]) (by kernel_rfl) (ext91 _ _ _) ?_)
  refine oP (r := []) [3, 4, 5, 6, 7] (S' := [(1, .int .u64 a1), (10, .int .u64 y10), (11, .int .u64 y12), (13, .int .u64 (add64s y9 y13)), (14, .int .u64 (add64c y9 y13))]) (by kernel_rfl) ?_
  refine oD ?_
  refine qT ?_
  refine cQ ?_
  refine cR [0, 1, 2, 3] (by kernel_rfl) ?_
  refine oP (r := []) [0, 1, 2, 3] (S' := [(1, .int .u64 a1), (10, .int .u64 y10), (13, .int .u64 (add64s y9 y13)), (15, .int .u64 (wu64 (y12 + (add64c y9 y13))))]) (by kernel_rfl) ?_
  refine oD ?_
  refine qT ?_
  refine cQ ?_
  refine cR [0, 1, 2, 3, 4, 5] (by kernel_rfl) ?_
  refine oP (r := []) [0, 1, 2, 3, 4, 5] (S' := [(1, .int .u64 a1), (10, .int .u64 y10), (13, .int .u64 (add64s y9 y13)), (16, .int .u64 (bOr .u64 (bShl .u64 (wu64 (y12 + (add64c y9 y13))) 32) (bShr .u64 (add64s y9 y13) 32)))]) (by kernel_rfl) ?_
  refine oD ?_
  refine qT ?_
  obtain ⟨r1, h1, h0⟩ := bindS h0
  refine CodT.meet (fun a w => ∃ (x14 : Bool), x14 = r1 ∧ Fr 80 [(6, .bool x14)] a ∧ Inv w0 Z w A) ?_ ?_
  ·
   refine cR [0, 1, 2, 3, 4, 5, 6, 7, 8, 9, 10, 11, 12, 13, 14, 15, 16, 17] (by kernel_rfl) ?_
   refine oP (r := [4, 5, 6, 7, 8, 9, 10, 11, 12, 13, 14, 15, 16, 17]) [0, 1, 2, 3] (S' := [(1, .int .u64 a1), (10, .int .u64 y10), (13, .int .u64 (add64s y9 y13)), (16, .int .u64 (bOr .u64 (bShl .u64 (wu64 (y12 + (add64c y9 y13))) 32) (bShr .u64 (add64s y9 y13) 32))), (66, .bool (decide ((bOr .u64 (bShl .u64 (wu64 (y12 + (add64c y9 y13))) 32) (bShr .u64 (add64s y9 y13) 32)) < a1)))]) (by kernel_rfl) ?_
   by_cases hb15 : (decide ((bOr .u64 (bShl .u64 (wu64 (y12 + (add64c y9 y13))) 32) (bShr .u64 (add64s y9 y13) 32)) < a1)) = true
   ·
    rw [if_pos hb15] at h1
    refine oK [1, 10, 13, 16, 66] (S' := [(1, .int .u64 a1), (10, .int .u64 y10), (13, .int .u64 (add64s y9 y13)), (16, .int .u64 (bOr .u64 (bShl .u64 (wu64 (y12 + (add64c y9 y13))) 32) (bShr .u64 (add64s y9 y13) 32))), (66, .bool true)]) (by (try simp only [hb15]); kernel_rfl) ?_
    refine oP (r := []) [4, 5, 6, 7, 8, 9, 10, 11, 12, 13, 14, 15, 16, 17] (S' := [(6, .bool true)]) (by kernel_rfl) ?_
    refine oD ?_
    have e := someS h1
    subst e
    exact Qn.thenJ fun a ha => ⟨true, rfl, ha.keep [6] (by kernel_rfl), hI⟩
   ·
    rw [if_neg hb15] at h1
    have hb15 : (decide ((bOr .u64 (bShl .u64 (wu64 (y12 + (add64c y9 y13))) 32) (bShr .u64 (add64s y9 y13) 32)) < a1)) = false := by simpa using hb15
    refine oK [1, 10, 13, 16, 66] (S' := [(1, .int .u64 a1), (10, .int .u64 y10), (13, .int .u64 (add64s y9 y13)), (16, .int .u64 (bOr .u64 (bShl .u64 (wu64 (y12 + (add64c y9 y13))) 32) (bShr .u64 (add64s y9 y13) 32))), (66, .bool false)]) (by (try simp only [hb15]); kernel_rfl) ?_
    refine oP (r := [8, 9, 10, 11, 12, 13, 14, 15, 16, 17]) [4, 5, 6, 7] (S' := [(10, .int .u64 y10), (13, .int .u64 (add64s y9 y13)), (66, .bool false), (70, .bool ((bOr .u64 (bShl .u64 (wu64 (y12 + (add64c y9 y13))) 32) (bShr .u64 (add64s y9 y13) 32)) == a1))]) (by kernel_rfl) ?_
    by_cases hb16 : ((bOr .u64 (bShl .u64 (wu64 (y12 + (add64c y9 y13))) 32) (bShr .u64 (add64s y9 y13) 32)) == a1) = true
    ·
     rw [if_pos hb16] at h1
     refine oK [10, 13, 66, 70] (S' := [(10, .int .u64 y10), (13, .int .u64 (add64s y9 y13)), (66, .bool false), (70, .bool true)]) (by (try simp only [hb16]); kernel_rfl) ?_
     refine oP (r := [13, 14, 15, 16, 17]) [8, 9, 10, 11, 12] (S' := [(10, .int .u64 y10), (66, .bool false), (75, .bool ((wu32 (add64s y9 y13)) == 0))]) (by kernel_rfl) ?_
     by_cases hb17 : ((wu32 (add64s y9 y13)) == 0) = true
     ·
      rw [if_pos hb17] at h1
      refine oK [10, 66, 75] (S' := [(10, .int .u64 y10), (66, .bool false), (75, .bool true)]) (by (try simp only [hb17]); kernel_rfl) ?_
      refine oP (r := []) [13, 14, 15, 16, 17] (S' := [(6, .bool (y10 == 0))]) (by kernel_rfl) ?_
      refine oD ?_
      have e := someS h1
      subst e
      exact Qn.thenJ fun a ha => ⟨y10 == 0, rfl, ha.keep [6] (by kernel_rfl), hI⟩
     ·
      rw [if_neg hb17] at h1
      have hb17 : ((wu32 (add64s y9 y13)) == 0) = false := by simpa using hb17
      refine oK [10, 66, 75] (S' := [(10, .int .u64 y10), (66, .bool false), (75, .bool false)]) (by (try simp only [hb17]); kernel_rfl) ?_
      refine oP (r := []) [13, 14, 15, 16, 17] (S' := [(6, .bool false)]) (by kernel_rfl) ?_
      refine oD ?_
      have e := someS h1
      subst e
      exact Qn.thenJ fun a ha => ⟨false, rfl, ha.keep [6] (by kernel_rfl), hI⟩
    ·
     rw [if_neg hb16] at h1
     have hb16 : ((bOr .u64 (bShl .u64 (wu64 (y12 + (add64c y9 y13))) 32) (bShr .u64 (add64s y9 y13) 32)) == a1) = false := by simpa using hb16
     refine oK [10, 13, 66, 70] (S' := [(10, .int .u64 y10), (13, .int .u64 (add64s y9 y13)), (66, .bool false), (70, .bool false)]) (by (try simp only [hb16]); kernel_rfl) ?_
     refine oP (r := []) [8, 9, 10, 11, 12, 13, 14, 15, 16, 17] (S' := [(6, .bool false)]) (by kernel_rfl) ?_
     refine oD ?_
     have e := someS h1
     subst e
     exact Qn.thenJ fun a ha => ⟨false, rfl, ha.keep [6] (by kernel_rfl), hI⟩
  ·
   rintro a w ⟨x14, rfl, ha, hI⟩
   try dsimp only at h0
   refine CodT.of ?_ ha
   refine CodT.ret ?_
   have e := someS h0
   subst e
   refine qK [6] (S' := [(6, .bool x14)]) (by kernel_rfl) ?_
   exact post_ret (v := .bool x14) (fun a ha => RunRes.run (vs := [.bool x14]) (.tmp (t := 6) (by kernel_rfl) .nil) ha (by kernel_rfl)) ⟨rfl, hI⟩
/-- cenotaph/sha.root -/
theorem c83 (w0 w : World) (Z : Hp) (A : HP) (hI : Inv w0 Z w A) (hT : Tabs Z) (a0 : Int) (a1 : Int) (r : Int) (h0 : sha_root a0 a1 = some r) :
  Calls prog 83 #[.int .u64 a0, iv a1] w (fun e w' => e = .returned (.int .u32 r) ∧ Inv w0 Z w' A) := by
 have e4 := calls_intro (R := (fun e w' => e = .returned (.int .u32 r) ∧ Inv w0 Z w' A)) (w := w) (args := [.int .u64 a0, iv a1]) (fn := Go.Proofs.Tryd.f83) 22 Go.Proofs.Tryd.func83 (by rfl) Go.Proofs.Tryd.ntmps83 (by kernel_rfl)
 refine e4 ?_
 clear e4
 unfold sha_root at h0
 refine cQ ?_
 refine cR [0] (by kernel_rfl) ?_
 refine oP (r := []) [0] (S' := [(0, .int .u64 a0), (1, iv a1)]) (by kernel_rfl) ?_
 refine oD ?_
 refine qT ?_
 refine cQ ?_
 refine cR [0] (by kernel_rfl) ?_
 refine oP (r := []) [0] (S' := [(0, .int .u64 a0), (1, iv a1), (5, .int .u64 0)]) (by kernel_rfl) ?_
 refine oD ?_
 refine qT ?_
 refine cQ ?_
 refine cQ ?_
 refine cR [0] (by kernel_rfl) ?_
 refine oP (r := []) [0] (S' := [(0, .int .u64 a0), (1, iv a1), (5, .int .u64 0), (6, .int .u64 137438953472)]) (by kernel_rfl) ?_
 refine oD ?_
 refine qT ?_
 obtain ⟨r1, h1, h0⟩ := bindS h0
 refine CodT.meet1 (fun a w => ∃ (x1 : Int), x1 = r1 ∧ Fr 22 [(5, .int .u64 x1)] a ∧ Inv w0 Z w A) ?_ ?_
 ·
  refine CodT.block ?_
  refine (fun a ha => wp_loopN (fun k a w => ∃ (x2 : Int) (x3 : Int), sha_root.l0 a0 a1 k x2 x3 = some r1 ∧ Fr 22 [(0, .int .u64 a0), (1, iv a1), (5, .int .u64 x2), (6, .int .u64 x3)] a ∧ Inv w0 Z w A) ?_ FU a w ⟨0, 137438953472, h1, ha.keep [0, 1, 5, 6] (by kernel_rfl), hI⟩)
  clear h1 hI
  rintro k a w ⟨x2, x3, h1, ha, hI⟩
  rcases k with _ | k
  ·
   cases h1
  simp only [sha_root.l0] at h1
  refine CodT.of ?_ ha
  refine cQ ?_
  refine cQ ?_
  refine cR [0, 1] (by kernel_rfl) ?_
  refine oP (r := []) [0, 1] (S' := [(0, .int .u64 a0), (1, iv a1), (5, .int .u64 x2), (6, .int .u64 x3), (8, .bool (decide (x3 > 0)))]) (by kernel_rfl) ?_
  refine oD ?_
  refine qT ?_
  by_cases hb4 : (decide (x3 > 0)) = true
  ·
   rw [if_pos hb4] at h1
   refine CodT.yes' (b := decide (x3 > 0)) (by kernel_rfl) hb4 ?_
   refine CodT.skip ?_
   refine qT ?_
   obtain ⟨r2, h2, h1⟩ := bindS h1
   refine CodT.meet (fun a w => ∃ (x5 : Int), x5 = r2 ∧ Fr 22 [(0, .int .u64 a0), (1, iv a1), (5, .int .u64 x5), (6, .int .u64 x3)] a ∧ Inv w0 Z w A) ?_ ?_
   ·
    refine CodT.block ?_
    refine cQ ?_
    refine cR [0, 1, 2, 3, 4, 5] (by kernel_rfl) ?_
    refine oP (r := [5]) [0, 1, 2, 3, 4] (S' := [(0, .int .u64 a0), (1, iv a1), (5, .int .u64 x2), (6, .int .u64 x3), (13, .int .u64 (bOr .u64 x2 x3)), (14, .int .u64 a0), (15, iv a1)]) (by kernel_rfl) ?_
    obtain ⟨y7, hc6, h2⟩ := bindS h2
    try dsimp only at h2
    refine oC (Does.call (d := some 16) (n := 87) (vs := [.int .u64 (bOr .u64 x2 x3), .int .u64 a0, iv a1]) (by kernel_rfl) en87 (c87 w0 w _ _ hI hT (bOr .u64 x2 x3) a0 a1 _ hc6) ?_)
    rintro e w ⟨rfl, hI⟩
    refine ⟨_, rfl, ?_⟩
    refine oD ?_
    refine qT ?_
    by_cases hb8 : y7 = true
    ·
     rw [if_pos hb8] at h2
     refine CodT.yes' (b := y7) (by kernel_rfl) hb8 ?_
     refine cR [0, 1, 2, 3] (by kernel_rfl) ?_
     refine oP (r := []) [0, 1, 2, 3] (S' := [(0, .int .u64 a0), (1, iv a1), (5, .int .u64 (bOr .u64 x2 x3)), (6, .int .u64 x3)]) (by kernel_rfl) ?_
     refine oD ?_
     refine Qn.block_normal ?_
     have e := someS h2
     subst e
     exact Qn.thenJ fun a ha => ⟨bOr .u64 x2 x3, rfl, ha.keep [0, 1, 5, 6] (by kernel_rfl), hI⟩
    ·
     rw [if_neg hb8] at h2
     refine CodT.no' (b := y7) (by kernel_rfl) (by simpa using hb8) ?_
     refine CodT.skip ?_
     refine Qn.block_normal ?_
     have e := someS h2
     subst e
     exact Qn.thenJ fun a ha => ⟨x2, rfl, ha.keep [0, 1, 5, 6] (by kernel_rfl), hI⟩
   ·
    rintro a w ⟨x5, rfl, ha, hI⟩
    try dsimp only at h1
    refine CodT.of ?_ ha
    refine cR [0, 1, 2] (by kernel_rfl) ?_
    refine oP (r := []) [0, 1, 2] (S' := [(0, .int .u64 a0), (1, iv a1), (5, .int .u64 x5), (6, .int .u64 (bShr .u64 x3 1))]) (by kernel_rfl) ?_
    refine oD ?_
    exact Qn.thenJ fun a ha => ⟨k, Nat.lt_succ_self k, x5, bShr .u64 x3 1, h1, ha.keep [0, 1, 5, 6] (by kernel_rfl), hI⟩
  ·
   rw [if_neg hb4] at h1
   refine CodT.no' (b := decide (x3 > 0)) (by kernel_rfl) (by simpa using hb4) ?_
   refine CodT.exit ?_
   refine Qn.exit_then ?_
   refine Qn.exit_then ?_
   refine Qn.block ?_
   have e := someS h1
   subst e
   exact Qn.thenJ fun a ha => ⟨x2, rfl, ha.keep [5] (by kernel_rfl), hI⟩
 ·
  rintro a w ⟨x1, rfl, ha, hI⟩
  try dsimp only at h0
  refine Qn.of ?_ ha
  refine qT ?_
  refine cQ ?_
  refine cR [0, 1, 2] (by kernel_rfl) ?_
  refine oP (r := []) [0, 1, 2] (S' := [(4, .int .u32 (wu32 x1))]) (by kernel_rfl) ?_
  refine oD ?_
  refine qT ?_
  refine CodT.ret ?_
  have e := someS h0
  subst e
  refine qK [4] (S' := [(4, .int .u32 (wu32 x1))]) (by kernel_rfl) ?_
  exact post_ret (v := .int .u32 (wu32 x1)) (fun a ha => RunRes.run (vs := [.int .u32 (wu32 x1)]) (.tmp (t := 4) (by kernel_rfl) .nil) ha (by kernel_rfl)) ⟨rfl, hI⟩
/-- cenotaph/sha.constants -/
theorem c77 (w0 w : World) (Z : Hp) (A : HP) (hI : Inv w0 Z w A) (hT : Tabs Z)  (r : ((List Int) × (List Int))) (h0 : sha_constants = some r) :
  Calls prog 77 #[] w (fun e w' => e = .returned (.tuple #[.agg (cA (Value.int .u32) r.1).toArray, .agg (cA (Value.int .u32) r.2).toArray]) ∧ r.1.length = 8 ∧ r.2.length = 64 ∧ Inv w0 Z w' A) := by
 have e4 := calls_intro (R := (fun e w' => e = .returned (.tuple #[.agg (cA (Value.int .u32) r.1).toArray, .agg (cA (Value.int .u32) r.2).toArray]) ∧ r.1.length = 8 ∧ r.2.length = 64 ∧ Inv w0 Z w' A)) (w := w) (args := []) (fn := Go.Proofs.Tryd.f77) 27 Go.Proofs.Tryd.func77 (by rfl) Go.Proofs.Tryd.ntmps77 (by kernel_rfl)
 refine e4 ?_
 clear e4
 unfold sha_constants at h0
 refine cQ ?_
 refine cR [0, 1] (by kernel_rfl) ?_
 refine oC (Does.allocL (d := 0) (T := 90) (cA (Value.int .u32) (List.replicate 8 (0 : Int))) (by kernel_rfl) ty90 hI (by kernel_rfl) ?_)
 intro b1 w hI
 refine oC (Does.allocL (d := 1) (T := 92) (cA (Value.int .u32) (List.replicate 64 (0 : Int))) (by kernel_rfl) ty92 hI (by kernel_rfl) ?_)
 intro b2 w hI
 refine oD ?_
 refine qT ?_
 refine cQ ?_
 refine cR [0] (by kernel_rfl) ?_
 refine oP (r := []) [0] (S' := [(0, pb b1), (1, pb b2), (2, iv 0)]) (by kernel_rfl) ?_
 refine oD ?_
 refine qT ?_
 refine cQ ?_
 refine cQ ?_
 refine cR [0] (by kernel_rfl) ?_
 refine oP (r := []) [0] (S' := [(0, pb b1), (1, pb b2), (2, iv 0), (3, iv 2)]) (by kernel_rfl) ?_
 refine oD ?_
 refine qT ?_
 obtain ⟨r1, h1, h0⟩ := bindS h0
 refine CodT.meet1 (fun a w => ∃ (x3 : (List Int)) (x5 : (List Int)), (x3, x5) = r1 ∧ Fr 27 [(0, pb b1), (1, pb b2)] a ∧ Inv w0 Z w (star (pt b2 (.cells (cA (Value.int .u32) x3).toArray 92 (0, 0))) (star (pt b1 (.cells (cA (Value.int .u32) x5).toArray 90 (0, 0))) A)) ∧ x3.length = 64 ∧ x5.length = 8) ?_ ?_
 ·
  refine CodT.block ?_
  refine (fun a ha => wp_loopN (fun k a w => ∃ (x7 : Int) (x8 : Int) (x9 : (List Int)) (x11 : (List Int)), sha_constants.l0 k x7 x8 x9 x11 = some r1 ∧ Fr 27 [(0, pb b1), (1, pb b2), (2, iv x7), (3, iv x8)] a ∧ Inv w0 Z w (star (pt b2 (.cells (cA (Value.int .u32) x9).toArray 92 (0, 0))) (star (pt b1 (.cells (cA (Value.int .u32) x11).toArray 90 (0, 0))) A)) ∧ x9.length = 64 ∧ x11.length = 8) ?_ FU a w ⟨0, 2, (List.replicate 64 (0 : Int)), (List.replicate 8 (0 : Int)), h1, ha.keep [0, 1, 2, 3] (by kernel_rfl), hI, (by kernel_rfl), (by kernel_rfl)⟩)
  clear h1 hI
  rintro k a w ⟨x7, x8, x9, x11, h1, ha, hI, hl10, hl12⟩
  rcases k with _ | k
  ·
   cases h1
  simp only [sha_constants.l0] at h1
  refine CodT.of ?_ ha
  refine cQ ?_
  refine cQ ?_
  refine cR [0, 1] (by kernel_rfl) ?_
  refine oP (r := []) [0, 1] (S' := [(0, pb b1), (1, pb b2), (2, iv x7), (3, iv x8), (5, .bool (decide (x7 < 64)))]) (by kernel_rfl) ?_
  refine oD ?_
  refine qT ?_
  by_cases hb13 : (decide (x7 < 64)) = true
  ·
   rw [if_pos hb13] at h1
   refine CodT.yes' (b := decide (x7 < 64)) (by kernel_rfl) hb13 ?_
   refine CodT.skip ?_
   refine qT ?_
   obtain ⟨r2, h2, h1⟩ := bindS h1
   refine CodT.meet (fun a w => ∃ (x14 : Int) (x15 : (List Int)) (x17 : (List Int)), (x14, x15, x17) = r2 ∧ Fr 27 [(0, pb b1), (1, pb b2), (2, iv x14), (3, iv x8)] a ∧ Inv w0 Z w (star (pt b2 (.cells (cA (Value.int .u32) x15).toArray 92 (0, 0))) (star (pt b1 (.cells (cA (Value.int .u32) x17).toArray 90 (0, 0))) A)) ∧ x15.length = 64 ∧ x17.length = 8) ?_ ?_
   ·
    refine CodT.block ?_
    refine cQ ?_
    refine cQ ?_
    refine cR [0, 1, 2] (by kernel_rfl) ?_
    refine oP (r := [1, 2]) [0] (S' := [(0, pb b1), (1, pb b2), (2, iv x7), (3, iv x8), (8, iv x8)]) (by kernel_rfl) ?_
    obtain ⟨y20, hc19, h2⟩ := bindS h2
    try dsimp only at h2
    refine oC (Does.call (d := some 9) (n := 82) (vs := [iv x8]) (by kernel_rfl) en82 (c82 w0 w _ _ hI hT x8 _ hc19) ?_)
    rintro e w ⟨rfl, hI⟩
    refine ⟨_, rfl, ?_⟩
    refine oP (r := []) [2] (S' := [(0, pb b1), (1, pb b2), (2, iv x7), (3, iv x8), (10, .bool (!y20))]) (by kernel_rfl) ?_
    refine oD ?_
    refine qT ?_
    by_cases hb21 : (!y20) = true
    ·
     rw [if_pos hb21] at h2
     refine CodT.yes' (b := !y20) (by kernel_rfl) hb21 ?_
     refine CodT.exit ?_
     refine Qn.exit_then ?_
     refine Qn.block ?_
     have e := someS h2
     subst e
     exact Qn.thenJ fun a ha => ⟨x7, x9, x11, rfl, ha.keep [0, 1, 2, 3] (by kernel_rfl), hI, hl10, hl12⟩
    ·
     rw [if_neg hb21] at h2
     refine CodT.no' (b := !y20) (by kernel_rfl) (by simpa using hb21) ?_
     refine CodT.skip ?_
     refine qT ?_
     refine cQ ?_
     refine cR [0, 1, 2, 3, 4, 5] (by kernel_rfl) ?_
     refine oP (r := [3, 4, 5]) [0, 1, 2] (S' := [(0, pb b1), (1, pb b2), (2, iv x7), (3, iv x8), (11, iv x7), (13, .int .u64 (wu64 x8))]) (by kernel_rfl) ?_
     obtain ⟨y23, hc22, h2⟩ := bindS h2
     try dsimp only at h2
     refine oC (Does.call (d := some 14) (n := 83) (vs := [.int .u64 (wu64 x8), iv 3]) (by kernel_rfl) en83 (c83 w0 w _ _ hI hT (wu64 x8) 3 _ hc22) ?_)
     rintro e w ⟨rfl, hI⟩
     refine ⟨_, rfl, ?_⟩
     obtain ⟨hg24, h2⟩ := guardS h2
     refine oC (Does.yi (Yl.indexArr (d := 15) (T := 92) (k := .i64) (j := x7) (g := b2) (o := 0) (by kernel_rfl) Go.Proofs.Tryd.underlying92 ty89 hg24.1 hg24.2) hI ?_)
     refine oC (Does.storeArr (e := (Value.int .u32)) (xs := x9) (u := y23) (T := 89) (b := b2) (j := x7) (by kernel_rfl) ty89 hI (by kernel_rfl) (by kernel_rfl) hg24.1 (by have := And.intro hl10 hg24.2; omega) ?_)
     intro w hI
     refine oD ?_
     refine qT ?_
     obtain ⟨r3, h3, h2⟩ := bindS h2
     refine CodT.meet (fun a w => ∃ (x25 : (List Int)), x25 = r3 ∧ Fr 27 [(0, pb b1), (1, pb b2), (2, iv x7), (3, iv x8)] a ∧ Inv w0 Z w (star (pt b2 (.cells (cA (Value.int .u32) (st x9 x7 y23)).toArray 92 (0, 0))) (star (pt b1 (.cells (cA (Value.int .u32) x25).toArray 90 (0, 0))) A)) ∧ x25.length = 8) ?_ ?_
     ·
      refine cQ ?_
      refine cR [0, 1] (by kernel_rfl) ?_
      refine oP (r := []) [0, 1] (S' := [(0, pb b1), (1, pb b2), (2, iv x7), (3, iv x8), (17, .bool (decide (x7 < 8)))]) (by kernel_rfl) ?_
      refine oD ?_
      refine qT ?_
      by_cases hb27 : (decide (x7 < 8)) = true
      ·
       rw [if_pos hb27] at h3
       refine CodT.yes' (b := decide (x7 < 8)) (by kernel_rfl) hb27 ?_
       refine cR [0, 1, 2, 3, 4, 5] (by kernel_rfl) ?_
       refine oP (r := [3, 4, 5]) [0, 1, 2] (S' := [(0, pb b1), (1, pb b2), (2, iv x7), (3, iv x8), (18, iv x7), (20, .int .u64 (wu64 x8))]) (by kernel_rfl) ?_
       obtain ⟨y29, hc28, h3⟩ := bindS h3
       try dsimp only at h3
       refine oC (Does.call (d := some 21) (n := 83) (vs := [.int .u64 (wu64 x8), iv 2]) (by kernel_rfl) en83 (c83 w0 w _ _ hI hT (wu64 x8) 2 _ hc28) ?_)
       rintro e w ⟨rfl, hI⟩
       refine ⟨_, rfl, ?_⟩
       obtain ⟨hg30, h3⟩ := guardS h3
       refine oC (Does.yi (Yl.indexArr (d := 22) (T := 90) (k := .i64) (j := x7) (g := b1) (o := 0) (by kernel_rfl) Go.Proofs.Tryd.underlying90 ty89 hg30.1 hg30.2) hI ?_)
       have hI := hI.mono (pick2 _ _ _)
       refine oC (Does.storeArr (e := (Value.int .u32)) (xs := x11) (u := y29) (T := 89) (b := b1) (j := x7) (by kernel_rfl) ty89 hI (by kernel_rfl) (by kernel_rfl) hg30.1 (by have := And.intro hl12 hg30.2; omega) ?_)
       intro w hI
       refine oD ?_
       have hI := hI.mono (pick2 _ _ _)
       have e := someS h3
       subst e
       exact Qn.thenJ fun a ha => ⟨st x11 x7 y29, rfl, ha.keep [0, 1, 2, 3] (by kernel_rfl), hI, ((st_length _ _ _).trans hl12)⟩
      ·
       rw [if_neg hb27] at h3
       refine CodT.no' (b := decide (x7 < 8)) (by kernel_rfl) (by simpa using hb27) ?_
       refine CodT.skip ?_
       have e := someS h3
       subst e
       exact Qn.thenJ fun a ha => ⟨x11, rfl, ha.keep [0, 1, 2, 3] (by kernel_rfl), hI, hl12⟩
     ·
      rintro a w ⟨x25, rfl, ha, hI, hl26⟩
      try dsimp only at h2
      refine CodT.of ?_ ha
      refine cR [0, 1, 2] (by kernel_rfl) ?_
      refine oP (r := []) [0, 1, 2] (S' := [(0, pb b1), (1, pb b2), (2, iv (wi64 (x7 + 1))), (3, iv x8)]) (by kernel_rfl) ?_
      refine oD ?_
      refine Qn.block_normal ?_
      have e := someS h2
      subst e
      exact Qn.thenJ fun a ha => ⟨wi64 (x7 + 1), st x9 x7 y23, x25, rfl, ha.keep [0, 1, 2, 3] (by kernel_rfl), hI, ((st_length _ _ _).trans hl10), hl26⟩
   ·
    rintro a w ⟨x14, x15, x17, rfl, ha, hI, hl16, hl18⟩
    try dsimp only at h1
    refine CodT.of ?_ ha
    refine cR [0, 1, 2] (by kernel_rfl) ?_
    refine oP (r := []) [0, 1, 2] (S' := [(0, pb b1), (1, pb b2), (2, iv x14), (3, iv (wi64 (x8 + 1)))]) (by kernel_rfl) ?_
    refine oD ?_
    exact Qn.thenJ fun a ha => ⟨k, Nat.lt_succ_self k, x14, wi64 (x8 + 1), x15, x17, h1, ha.keep [0, 1, 2, 3] (by kernel_rfl), hI, hl16, hl18⟩
  ·
   rw [if_neg hb13] at h1
   refine CodT.no' (b := decide (x7 < 64)) (by kernel_rfl) (by simpa using hb13) ?_
   refine CodT.exit ?_
   refine Qn.exit_then ?_
   refine Qn.exit_then ?_
   refine Qn.block ?_
   have e := someS h1
   subst e
   exact Qn.thenJ fun a ha => ⟨x9, x11, rfl, ha.keep [0, 1] (by kernel_rfl), hI, hl10, hl12⟩
 ·
  rintro a w ⟨x3, x5, rfl, ha, hI, hl4, hl6⟩
  try dsimp only at h0
  refine Qn.of ?_ ha
  refine qT ?_
  refine cQ ?_
  refine CodT.drawI (n := 4) [] (by kernel_rfl) (by kernel_rfl) hI ?_
  intro w hI
  refine GmT.r (i := 0) 2 (by kernel_rfl) (by kernel_rfl) (Yl.load (d := 25) (T := 90) (v := .agg (cA (Value.int .u32) x5).toArray) (by kernel_rfl) (ldBN ty90 (l := cA (Value.int .u32) x5) (o := 0) (cs := cA (Value.int .u32) x5) (pick2 _ _ _) ((cA_length _ _).trans hl6) (whole _ _ ((cA_length _ _).trans hl6)))) hI ?_
  refine GmT.r (i := 1) 2 (by kernel_rfl) (by kernel_rfl) (Yl.load (d := 26) (T := 92) (v := .agg (cA (Value.int .u32) x3).toArray) (by kernel_rfl) (ldBN ty92 (l := cA (Value.int .u32) x3) (o := 0) (cs := cA (Value.int .u32) x3) (ent_refl _) ((cA_length _ _).trans hl4) (whole _ _ ((cA_length _ _).trans hl4)))) hI ?_
  have hI := hI.mono (pick2 _ _ _)
  refine GmT.o (i := 2) (by kernel_rfl) (Does.storeAll (T := 90) (b := b1) (n := 8) (xs := x5) (ys := x5) (by kernel_rfl) ty90 hI (fun _ => rfl) hl6 hl6 ?_)
  intro w hI
  have hC := hI
  have hC := hC.mono (pick2 _ _ _)
  refine ⟨fun _ _ => hC, ?_⟩
  have hI := hI.mono (pick2 _ _ _)
  refine GmT.o (i := 3) (by kernel_rfl) (Does.storeAll (T := 92) (b := b2) (n := 64) (xs := x3) (ys := x3) (by kernel_rfl) ty92 hI (fun _ => rfl) hl4 hl4 ?_)
  intro w hI
  refine ⟨fun _ _ => hI, ?_⟩
  refine GmT.done (by kernel_rfl) ?_
  refine qT ?_
  refine CodT.ret ?_
  have hL31 := (ldBN ty90 (l := cA (Value.int .u32) x5) (o := 0) (cs := cA (Value.int .u32) x5) (pick2 _ _ _) ((cA_length _ _).trans hl6) (whole _ _ ((cA_length _ _).trans hl6))) w hI
  have hL32 := (ldBN ty92 (l := cA (Value.int .u32) x3) (o := 0) (cs := cA (Value.int .u32) x3) (ent_refl _) ((cA_length _ _).trans hl4) (whole _ _ ((cA_length _ _).trans hl4))) w hI
  have hI := hI.drop
  have hI := hI.drop
  have e := someS h0
  subst e
  refine qK [0, 1] (S' := [(0, pb b1), (1, pb b2)]) (by kernel_rfl) ?_
  exact post_ret (v := .tuple #[.agg (cA (Value.int .u32) x5).toArray, .agg (cA (Value.int .u32) x3).toArray]) (fun a ha => RunRes.run (vs := [.agg (cA (Value.int .u32) x5).toArray, .agg (cA (Value.int .u32) x3).toArray]) (.cell (t := 0) (T := 90) (ad := ⟨b1, 0, none⟩) (by kernel_rfl) hL31 (.cell (t := 1) (T := 92) (ad := ⟨b2, 0, none⟩) (by kernel_rfl) hL32 .nil)) ha (by kernel_rfl)) ⟨rfl, hl6, hl4, hI⟩
/-- cenotaph/sha.Pad -/
theorem c78 (w0 w : World) (Z : Hp) (A : HP) (hI : Inv w0 Z w A) (hT : Tabs Z) (a0 : ByteArray) (r : ByteArray) (h0 : sha_Pad a0 = some r) :
  Calls prog 78 #[.string a0] w (fun e w' => e = .returned (.string r) ∧ Inv w0 Z w' A) := by
 have e4 := calls_intro (R := (fun e w' => e = .returned (.string r) ∧ Inv w0 Z w' A)) (w := w) (args := [.string a0]) (fn := Go.Proofs.Tryd.f78) 35 Go.Proofs.Tryd.func78 (by rfl) Go.Proofs.Tryd.ntmps78 (by kernel_rfl)
 refine e4 ?_
 clear e4
 unfold sha_Pad at h0
 refine cQ ?_
 refine cR [0] (by kernel_rfl) ?_
 refine oP (r := []) [0] (S' := [(0, .string a0)]) (by kernel_rfl) ?_
 refine oD ?_
 refine qT ?_
 refine cQ ?_
 refine cR [0, 1, 2, 3, 4] (by kernel_rfl) ?_
 refine oP (r := [1, 2, 3, 4]) [0] (S' := [(0, .string a0), (6, .string a0)]) (by kernel_rfl) ?_
 obtain ⟨hg1, h0⟩ := guardS h0
 refine oC (Does.s2b (d := 7) (src := 9) (dst := 102) (s := a0) (by kernel_rfl) Go.Proofs.Tryd.underlying9 Go.Proofs.Tryd.underlying102 Go.Proofs.Tryd.underlying5 (Nat.le_trans hg1 (by decide)) hI ?_)
 intro A2 cp3 w hI
 refine oC (Does.buildSlice (en := (cI .u8)) (d := 8) (n := 1) (T := 102) (ps := [(0, .int .u8 128)]) ([128] : List Int) (by kernel_rfl) Go.Proofs.Tryd.underlying102 ty5 (by kernel_rfl) (by kernel_rfl) (by kernel_rfl) (by kernel_rfl) (len_all (fun _ => rfl)) hI ?_)
 intro b4 w hI
 obtain ⟨hg5, h0⟩ := guardS h0
 have hI := hI.mono (pick2 _ _ _)
 refine oC (Does.append (d := 9) (t := 102) (tx := 102) (ty := 102) (ys := byts a0) (zs := ([128] : List Int)) (x := .slice (some ⟨b4, 0, none⟩) (([128] : List Int).length) 1) (by kernel_rfl) Go.Proofs.Tryd.underlying102 ty5 (by kernel_rfl) hI (src_own Go.Proofs.Tryd.underlying102 (hI.mono (pick2 _ _ _)) (one_flat _ (fun _ => rfl))) (ownS_facts (hI.mono (pick2 _ _ _))).2.2 (by unfold LIM at hg5; omega) hg5 ?_)
 intro A6 cp7 w hI
 refine oP (r := []) [4] (S' := [(0, .string a0), (3, .slice A6 (((byts a0) ++ ([128] : List Int)).length) cp7)]) (by kernel_rfl) ?_
 refine oD ?_
 refine qT ?_
 refine cQ ?_
 obtain ⟨r1, h1, h0⟩ := bindS h0
 refine CodT.meet1 (fun a w => ∃ (x8 : (List Int)) (A9 : Option Addr) (cp10 : Nat), x8 = r1 ∧ Fr 35 [(0, .string a0), (3, .slice A9 x8.length cp10)] a ∧ Inv w0 Z w (star (ownS 5 (cI .u8) 1 A9 cp10 x8) A)) ?_ ?_
 ·
  refine CodT.block ?_
  have hI := hI.mono (pick2 _ _ _)
  have hI := hI.drop
  refine (fun a ha => wp_loopN (fun k a w => ∃ (x11 : (List Int)) (A12 : Option Addr) (cp13 : Nat), sha_Pad.l0 k x11 = some r1 ∧ Fr 35 [(0, .string a0), (3, .slice A12 x11.length cp13)] a ∧ Inv w0 Z w (star (ownS 5 (cI .u8) 1 A12 cp13 x11) A)) ?_ FU a w ⟨(byts a0) ++ ([128] : List Int), A6, cp7, h1, ha.keep [0, 3] (by kernel_rfl), hI⟩)
  clear h1 hI
  rintro k a w ⟨x11, A12, cp13, h1, ha, hI⟩
  rcases k with _ | k
  ·
   cases h1
  simp only [sha_Pad.l0] at h1
  refine CodT.of ?_ ha
  refine cQ ?_
  refine cQ ?_
  refine cR [0, 1, 2, 3] (by kernel_rfl) ?_
  refine oP (r := []) [0, 1, 2, 3] (S' := [(0, .string a0), (3, .slice A12 x11.length cp13), (13, .bool (((x11.length : Int).tmod 64) != 56))]) (by kernel_rfl) ?_
  refine oD ?_
  refine qT ?_
  by_cases hb14 : (((x11.length : Int).tmod 64) != 56) = true
  ·
   rw [if_pos hb14] at h1
   refine CodT.yes' (b := ((x11.length : Int).tmod 64) != 56) (by kernel_rfl) hb14 ?_
   refine CodT.skip ?_
   refine qT ?_
   refine CodT.block ?_
   refine cR [0, 1, 2, 3] (by kernel_rfl) ?_
   refine oP (r := [1, 2, 3]) [0] (S' := [(0, .string a0), (14, .slice A12 x11.length cp13)]) (by kernel_rfl) ?_
   refine oC (Does.buildSlice (en := (cI .u8)) (d := 15) (n := 1) (T := 102) (ps := [(0, .int .u8 0)]) ([0] : List Int) (by kernel_rfl) Go.Proofs.Tryd.underlying102 ty5 (by kernel_rfl) (by kernel_rfl) (by kernel_rfl) (by kernel_rfl) (len_all (fun _ => rfl)) hI ?_)
   intro b15 w hI
   obtain ⟨hg16, h1⟩ := guardS h1
   have hI := hI.mono (pick2 _ _ _)
   refine oC (Does.append (d := 16) (t := 102) (tx := 102) (ty := 102) (ys := x11) (zs := ([0] : List Int)) (x := .slice (some ⟨b15, 0, none⟩) (([0] : List Int).length) 1) (by kernel_rfl) Go.Proofs.Tryd.underlying102 ty5 (by kernel_rfl) hI (src_own Go.Proofs.Tryd.underlying102 (hI.mono (pick2 _ _ _)) (one_flat _ (fun _ => rfl))) (ownS_facts (hI.mono (pick2 _ _ _))).2.2 (by unfold LIM at hg16; omega) hg16 ?_)
   intro A17 cp18 w hI
   refine oP (r := []) [3] (S' := [(0, .string a0), (3, .slice A17 ((x11 ++ ([0] : List Int)).length) cp18)]) (by kernel_rfl) ?_
   refine oD ?_
   refine Qn.block_normal ?_
   have hI := hI.mono (pick2 _ _ _)
   have hI := hI.drop
   exact Qn.thenJ fun a ha => ⟨k, Nat.lt_succ_self k, x11 ++ ([0] : List Int), A17, cp18, h1, ha.keep [0, 3] (by kernel_rfl), hI⟩
  ·
   rw [if_neg hb14] at h1
   refine CodT.no' (b := ((x11.length : Int).tmod 64) != 56) (by kernel_rfl) (by simpa using hb14) ?_
   refine CodT.exit ?_
   refine Qn.exit_then ?_
   refine Qn.exit_then ?_
   refine Qn.block ?_
   have e := someS h1
   subst e
   exact Qn.thenJ fun a ha => ⟨x11, A12, cp13, rfl, ha.keep [0, 3] (by kernel_rfl), hI⟩
 ·
  rintro a w ⟨x8, A9, cp10, rfl, ha, hI⟩
  try dsimp only at h0
  refine Qn.of ?_ ha
  refine qT ?_
  refine cQ ?_
  refine cR [0, 1, 2, 3, 4] (by kernel_rfl) ?_
  refine oP (r := []) [0, 1, 2, 3, 4] (S' := [(3, .slice A9 x8.length cp10), (4, .int .u64 (bShl .u64 (wu64 (a0.size : Int)) 3))]) (by kernel_rfl) ?_
  refine oD ?_
  refine qT ?_
  refine cQ ?_
  refine cQ ?_
  refine cR [0] (by kernel_rfl) ?_
  refine oP (r := []) [0] (S' := [(3, .slice A9 x8.length cp10), (4, .int .u64 (bShl .u64 (wu64 (a0.size : Int)) 3)), (5, iv 7)]) (by kernel_rfl) ?_
  refine oD ?_
  refine qT ?_
  obtain ⟨r1, h1, h0⟩ := bindS h0
  refine CodT.meet1 (fun a w => ∃ (x19 : (List Int)) (A20 : Option Addr) (cp21 : Nat), x19 = r1 ∧ Fr 35 [(3, .slice A20 x19.length cp21)] a ∧ Inv w0 Z w (star (ownS 5 (cI .u8) 1 A20 cp21 x19) A)) ?_ ?_
  ·
   refine CodT.block ?_
   refine (fun a ha => wp_loopN (fun k a w => ∃ (x22 : (List Int)) (x25 : Int) (A23 : Option Addr) (cp24 : Nat), sha_Pad.l1 a0 k x22 x25 = some r1 ∧ Fr 35 [(3, .slice A23 x22.length cp24), (4, .int .u64 (bShl .u64 (wu64 (a0.size : Int)) 3)), (5, iv x25)] a ∧ Inv w0 Z w (star (ownS 5 (cI .u8) 1 A23 cp24 x22) A)) ?_ FU a w ⟨x8, 7, A9, cp10, h1, ha.keep [3, 4, 5] (by kernel_rfl), hI⟩)
   clear h1 hI
   rintro k a w ⟨x22, x25, A23, cp24, h1, ha, hI⟩
   rcases k with _ | k
   ·
    cases h1
   simp only [sha_Pad.l1] at h1
   refine CodT.of ?_ ha
   refine cQ ?_
   refine cQ ?_
   refine cR [0, 1] (by kernel_rfl) ?_
   refine oP (r := []) [0, 1] (S' := [(3, .slice A23 x22.length cp24), (4, .int .u64 (bShl .u64 (wu64 (a0.size : Int)) 3)), (5, iv x25), (22, .bool (decide (x25 ≥ 0)))]) (by kernel_rfl) ?_
   refine oD ?_
   refine qT ?_
   by_cases hb26 : (decide (x25 ≥ 0)) = true
   ·
    rw [if_pos hb26] at h1
    refine CodT.yes' (b := decide (x25 ≥ 0)) (by kernel_rfl) hb26 ?_
    refine CodT.skip ?_
    refine qT ?_
    refine cQ ?_
    refine CodT.block ?_
    refine cR [0, 1, 2, 3, 4, 5, 6, 7, 8] (by kernel_rfl) ?_
    refine oP (r := [4, 5, 6, 7, 8]) [0, 1, 2, 3] (S' := [(4, .int .u64 (bShl .u64 (wu64 (a0.size : Int)) 3)), (5, iv x25), (25, .slice A23 x22.length cp24), (26, .int .u64 (bShl .u64 (wu64 (a0.size : Int)) 3)), (28, iv (wi64 (8 * x25)))]) (by kernel_rfl) ?_
    obtain ⟨hg27, h1⟩ := guardS h1
    refine oC (Does.yi (Yl.shr (d := 29) (T := 103) (k := .u64) (k' := .i64) (x := bShl .u64 (wu64 (a0.size : Int)) 3) (y := wi64 (8 * x25)) (by kernel_rfl) hg27) hI ?_)
    refine oP (r := [6, 7, 8]) [5] (S' := [(4, .int .u64 (bShl .u64 (wu64 (a0.size : Int)) 3)), (5, iv x25), (25, .slice A23 x22.length cp24), (30, .int .u8 (wu8 (bShr .u64 (bShl .u64 (wu64 (a0.size : Int)) 3) (wi64 (8 * x25)))))]) (by kernel_rfl) ?_
    refine oC (Does.buildSlice (en := (cI .u8)) (d := 31) (n := 1) (T := 102) (ps := [(0, .int .u8 (wu8 (bShr .u64 (bShl .u64 (wu64 (a0.size : Int)) 3) (wi64 (8 * x25)))))]) ([wu8 (bShr .u64 (bShl .u64 (wu64 (a0.size : Int)) 3) (wi64 (8 * x25)))] : List Int) (by kernel_rfl) Go.Proofs.Tryd.underlying102 ty5 (by kernel_rfl) (by kernel_rfl) (by kernel_rfl) (by kernel_rfl) (len_all (fun _ => rfl)) hI ?_)
    intro b28 w hI
    obtain ⟨hg29, h1⟩ := guardS h1
    have hI := hI.mono (pick2 _ _ _)
    refine oC (Does.append (d := 32) (t := 102) (tx := 102) (ty := 102) (ys := x22) (zs := ([wu8 (bShr .u64 (bShl .u64 (wu64 (a0.size : Int)) 3) (wi64 (8 * x25)))] : List Int)) (x := .slice (some ⟨b28, 0, none⟩) (([wu8 (bShr .u64 (bShl .u64 (wu64 (a0.size : Int)) 3) (wi64 (8 * x25)))] : List Int).length) 1) (by kernel_rfl) Go.Proofs.Tryd.underlying102 ty5 (by kernel_rfl) hI (src_own Go.Proofs.Tryd.underlying102 (hI.mono (pick2 _ _ _)) (one_flat _ (fun _ => rfl))) (ownS_facts (hI.mono (pick2 _ _ _))).2.2 (by unfold LIM at hg29; omega) hg29 ?_)
    intro A30 cp31 w hI
    refine oP (r := []) [8] (S' := [(3, .slice A30 ((x22 ++ ([wu8 (bShr .u64 (bShl .u64 (wu64 (a0.size : Int)) 3) (wi64 (8 * x25)))] : List Int)).length) cp31), (4, .int .u64 (bShl .u64 (wu64 (a0.size : Int)) 3)), (5, iv x25)]) (by kernel_rfl) ?_
    refine oD ?_
    refine Qn.block_normal ?_
    refine qT ?_
    refine cR [0, 1, 2] (by kernel_rfl) ?_
    refine oP (r := []) [0, 1, 2] (S' := [(3, .slice A30 ((x22 ++ ([wu8 (bShr .u64 (bShl .u64 (wu64 (a0.size : Int)) 3) (wi64 (8 * x25)))] : List Int)).length) cp31), (4, .int .u64 (bShl .u64 (wu64 (a0.size : Int)) 3)), (5, iv (wi64 (x25 - 1)))]) (by kernel_rfl) ?_
    refine oD ?_
    have hI := hI.mono (pick2 _ _ _)
    have hI := hI.drop
    exact Qn.thenJ fun a ha => ⟨k, Nat.lt_succ_self k, x22 ++ ([wu8 (bShr .u64 (bShl .u64 (wu64 (a0.size : Int)) 3) (wi64 (8 * x25)))] : List Int), wi64 (x25 - 1), A30, cp31, h1, ha.keep [3, 4, 5] (by kernel_rfl), hI⟩
   ·
    rw [if_neg hb26] at h1
    refine CodT.no' (b := decide (x25 ≥ 0)) (by kernel_rfl) (by simpa using hb26) ?_
    refine CodT.exit ?_
    refine Qn.exit_then ?_
    refine Qn.exit_then ?_
    refine Qn.block ?_
    have e := someS h1
    subst e
    exact Qn.thenJ fun a ha => ⟨x22, A23, cp24, rfl, ha.keep [3] (by kernel_rfl), hI⟩
  ·
   rintro a w ⟨x19, A20, cp21, rfl, ha, hI⟩
   try dsimp only at h0
   refine Qn.of ?_ ha
   refine qT ?_
   refine cQ ?_
   refine cR [0, 1, 2] (by kernel_rfl) ?_
   refine oP (r := [1, 2]) [0] (S' := [(33, .slice A20 x19.length cp21)]) (by kernel_rfl) ?_
   refine oC (Does.b2sOwn (d := 34) (src := 102) (dst := 9) (xs := x19) (by kernel_rfl) Go.Proofs.Tryd.underlying102 Go.Proofs.Tryd.underlying5 Go.Proofs.Tryd.underlying9 hI ?_)
   refine oP (r := []) [2] (S' := [(2, .string (strOfNums x19))]) (by kernel_rfl) ?_
   refine oD ?_
   refine qT ?_
   refine CodT.ret ?_
   have hI := hI.drop
   have e := someS h0
   subst e
   refine qK [2] (S' := [(2, .string (strOfNums x19))]) (by kernel_rfl) ?_
   exact post_ret (v := .string (strOfNums x19)) (fun a ha => RunRes.run (vs := [.string (strOfNums x19)]) (.tmp (t := 2) (by kernel_rfl) .nil) ha (by kernel_rfl)) ⟨rfl, hI⟩
/-- math/bits.RotateLeft32 -/
theorem c88 (w0 w : World) (Z : Hp) (A : HP) (hI : Inv w0 Z w A) (hT : Tabs Z) (a0 : Int) (a1 : Int) (r : Int) (h0 : bits_RotateLeft32 a0 a1 = some r) :
  Calls prog 88 #[.int .u32 a0, iv a1] w (fun e w' => e = .returned (.int .u32 r) ∧ Inv w0 Z w' A) := by
 have e4 := calls_intro (R := (fun e w' => e = .returned (.int .u32 r) ∧ Inv w0 Z w' A)) (w := w) (args := [.int .u32 a0, iv a1]) (fn := Go.Proofs.Tryd.f88) 17 Go.Proofs.Tryd.func88 (by rfl) Go.Proofs.Tryd.ntmps88 (by kernel_rfl)
 refine e4 ?_
 clear e4
 unfold bits_RotateLeft32 at h0
 refine cQ ?_
 refine cR [0] (by kernel_rfl) ?_
 refine oP (r := []) [0] (S' := [(0, .int .u32 a0), (1, iv a1)]) (by kernel_rfl) ?_
 refine oD ?_
 refine qT ?_
 refine cQ ?_
 refine cR [0, 1, 2, 3] (by kernel_rfl) ?_
 refine oP (r := []) [0, 1, 2, 3] (S' := [(0, .int .u32 a0), (5, .int .u64 (bAnd .u64 (wu64 a1) 31))]) (by kernel_rfl) ?_
 refine oD ?_
 refine qT ?_
 refine cQ ?_
 refine cR [0, 1, 2, 3, 4, 5, 6, 7, 8] (by kernel_rfl) ?_
 refine oP (r := [2, 3, 4, 5, 6, 7, 8]) [0, 1] (S' := [(0, .int .u32 a0), (5, .int .u64 (bAnd .u64 (wu64 a1) 31)), (9, .int .u32 a0), (10, .int .u64 (bAnd .u64 (wu64 a1) 31))]) (by kernel_rfl) ?_
 obtain ⟨hg1, h0⟩ := guardS h0
 refine oC (Does.yi (Yl.shl (d := 11) (T := 89) (k := .u32) (k' := .u64) (x := a0) (y := bAnd .u64 (wu64 a1) 31) (by kernel_rfl) hg1) hI ?_)
 refine oP (r := [6, 7, 8]) [3, 4, 5] (S' := [(11, .int .u32 (bShl .u32 a0 (bAnd .u64 (wu64 a1) 31))), (12, .int .u32 a0), (14, .int .u64 (wu64 (32 - (bAnd .u64 (wu64 a1) 31))))]) (by kernel_rfl) ?_
 obtain ⟨hg2, h0⟩ := guardS h0
 refine oC (Does.yi (Yl.shr (d := 15) (T := 89) (k := .u32) (k' := .u64) (x := a0) (y := wu64 (32 - (bAnd .u64 (wu64 a1) 31))) (by kernel_rfl) hg2) hI ?_)
 refine oP (r := []) [7, 8] (S' := [(4, .int .u32 (bOr .u32 (bShl .u32 a0 (bAnd .u64 (wu64 a1) 31)) (bShr .u32 a0 (wu64 (32 - (bAnd .u64 (wu64 a1) 31))))))]) (by kernel_rfl) ?_
 refine oD ?_
 refine qT ?_
 refine CodT.ret ?_
 have e := someS h0
 subst e
 refine qK [4] (S' := [(4, .int .u32 (bOr .u32 (bShl .u32 a0 (bAnd .u64 (wu64 a1) 31)) (bShr .u32 a0 (wu64 (32 - (bAnd .u64 (wu64 a1) 31))))))]) (by kernel_rfl) ?_
 exact post_ret (v := .int .u32 (bOr .u32 (bShl .u32 a0 (bAnd .u64 (wu64 a1) 31)) (bShr .u32 a0 (wu64 (32 - (bAnd .u64 (wu64 a1) 31)))))) (fun a ha => RunRes.run (vs := [.int .u32 (bOr .u32 (bShl .u32 a0 (bAnd .u64 (wu64 a1) 31)) (bShr .u32 a0 (wu64 (32 - (bAnd .u64 (wu64 a1) 31)))))]) (.tmp (t := 4) (by kernel_rfl) .nil) ha (by kernel_rfl)) ⟨rfl, hI⟩
/-- cenotaph/sha.right -/
theorem c85 (w0 w : World) (Z : Hp) (A : HP) (hI : Inv w0 Z w A) (hT : Tabs Z) (a0 : Int) (a1 : Int) (r : Int) (h0 : sha_right a0 a1 = some r) :
  Calls prog 85 #[.int .u32 a0, iv a1] w (fun e w' => e = .returned (.int .u32 r) ∧ Inv w0 Z w' A) := by
 have e4 := calls_intro (R := (fun e w' => e = .returned (.int .u32 r) ∧ Inv w0 Z w' A)) (w := w) (args := [.int .u32 a0, iv a1]) (fn := Go.Proofs.Tryd.f85) 9 Go.Proofs.Tryd.func85 (by rfl) Go.Proofs.Tryd.ntmps85 (by kernel_rfl)
 refine e4 ?_
 clear e4
 unfold sha_right at h0
 refine cQ ?_
 refine cR [0] (by kernel_rfl) ?_
 refine oP (r := []) [0] (S' := [(0, .int .u32 a0), (1, iv a1)]) (by kernel_rfl) ?_
 refine oD ?_
 refine qT ?_
 refine cQ ?_
 refine cR [0, 1, 2, 3, 4] (by kernel_rfl) ?_
 refine oP (r := [3, 4]) [0, 1, 2] (S' := [(5, .int .u32 a0), (7, iv (wi64 (0 - a1)))]) (by kernel_rfl) ?_
 obtain ⟨y2, hc1, h0⟩ := bindS h0
 try dsimp only at h0
 refine oC (Does.call (d := some 8) (n := 88) (vs := [.int .u32 a0, iv (wi64 (0 - a1))]) (by kernel_rfl) en88 (c88 w0 w _ _ hI hT a0 (wi64 (0 - a1)) _ hc1) ?_)
 rintro e w ⟨rfl, hI⟩
 refine ⟨_, rfl, ?_⟩
 refine oP (r := []) [4] (S' := [(4, .int .u32 y2)]) (by kernel_rfl) ?_
 refine oD ?_
 refine qT ?_
 refine CodT.ret ?_
 have e := someS h0
 subst e
 refine qK [4] (S' := [(4, .int .u32 y2)]) (by kernel_rfl) ?_
 exact post_ret (v := .int .u32 y2) (fun a ha => RunRes.run (vs := [.int .u32 y2]) (.tmp (t := 4) (by kernel_rfl) .nil) ha (by kernel_rfl)) ⟨rfl, hI⟩
/-- cenotaph/sha.words -/
theorem c84 (w0 w : World) (Z : Hp) (A : HP) (hI : Inv w0 Z w A) (hT : Tabs Z) (a0 : ByteArray) (r : (List Int)) (h0 : sha_words a0 = some r) :
  Calls prog 84 #[.string a0] w (fun e w' => e = .returned (.agg (cA (Value.int .u32) r).toArray) ∧ r.length = 64 ∧ Inv w0 Z w' A) := by
 have e4 := calls_intro (R := (fun e w' => e = .returned (.agg (cA (Value.int .u32) r).toArray) ∧ r.length = 64 ∧ Inv w0 Z w' A)) (w := w) (args := [.string a0]) (fn := Go.Proofs.Tryd.f84) 82 Go.Proofs.Tryd.func84 (by rfl) Go.Proofs.Tryd.ntmps84 (by kernel_rfl)
 refine e4 ?_
 clear e4
 unfold sha_words at h0
 refine cQ ?_
 refine cR [0] (by kernel_rfl) ?_
 refine oC (Does.allocL (d := 2) (T := 92) (cA (Value.int .u32) (List.replicate 64 (0 : Int))) (by kernel_rfl) ty92 hI (by kernel_rfl) ?_)
 intro b1 w hI
 refine oD ?_
 refine qT ?_
 refine cQ ?_
 refine cR [0] (by kernel_rfl) ?_
 refine oC (Does.allocL (d := 3) (T := 92) (cA (Value.int .u32) (List.replicate 64 (0 : Int))) (by kernel_rfl) ty92 hI (by kernel_rfl) ?_)
 intro b2 w hI
 refine oD ?_
 refine qT ?_
 refine cQ ?_
 refine cQ ?_
 refine cR [0] (by kernel_rfl) ?_
 refine oP (r := []) [0] (S' := [(0, .string a0), (2, pb b1), (3, pb b2), (7, iv 0)]) (by kernel_rfl) ?_
 refine oD ?_
 refine qT ?_
 obtain ⟨r1, h1, h0⟩ := bindS h0
 refine CodT.meet1 (fun a w => ∃ (x3 : (List Int)), x3 = r1 ∧ Fr 82 [(2, pb b1), (3, pb b2)] a ∧ Inv w0 Z w (star (pt b2 (.cells (cA (Value.int .u32) x3).toArray 92 (0, 0))) (star (pt b1 (.cells (cA (Value.int .u32) (List.replicate 64 (0 : Int))).toArray 92 (0, 0))) A)) ∧ x3.length = 64) ?_ ?_
 ·
  refine CodT.block ?_
  refine (fun a ha => wp_loopN (fun k a w => ∃ (x5 : Int) (x6 : (List Int)), sha_words.l0 a0 k x5 x6 = some r1 ∧ Fr 82 [(0, .string a0), (2, pb b1), (3, pb b2), (7, iv x5)] a ∧ Inv w0 Z w (star (pt b2 (.cells (cA (Value.int .u32) x6).toArray 92 (0, 0))) (star (pt b1 (.cells (cA (Value.int .u32) (List.replicate 64 (0 : Int))).toArray 92 (0, 0))) A)) ∧ x6.length = 64) ?_ FU a w ⟨0, (List.replicate 64 (0 : Int)), h1, ha.keep [0, 2, 3, 7] (by kernel_rfl), hI, (by kernel_rfl)⟩)
  clear h1 hI
  rintro k a w ⟨x5, x6, h1, ha, hI, hl7⟩
  rcases k with _ | k
  ·
   cases h1
  simp only [sha_words.l0] at h1
  refine CodT.of ?_ ha
  refine cQ ?_
  refine cR [0] (by kernel_rfl) ?_
  refine oP (r := []) [0] (S' := [(0, .string a0), (2, pb b1), (3, pb b2), (7, iv x5), (8, .bool (decide (x5 < 64)))]) (by kernel_rfl) ?_
  refine oD ?_
  refine qT ?_
  refine cQ ?_
  by_cases hb8 : (decide (x5 < 64)) = true
  ·
   rw [if_pos hb8] at h1
   refine CodT.yes' (b := decide (x5 < 64)) (by kernel_rfl) hb8 ?_
   refine CodT.skip ?_
   refine qT ?_
   obtain ⟨r2, h2, h1⟩ := bindS h1
   refine CodT.meet (fun a w => ∃ (x9 : (List Int)), x9 = r2 ∧ Fr 82 [(0, .string a0), (2, pb b1), (3, pb b2), (7, iv x5)] a ∧ Inv w0 Z w (star (pt b2 (.cells (cA (Value.int .u32) x9).toArray 92 (0, 0))) (star (pt b1 (.cells (cA (Value.int .u32) (List.replicate 64 (0 : Int))).toArray 92 (0, 0))) A)) ∧ x9.length = 64) ?_ ?_
   ·
    refine CodT.block ?_
    refine cQ ?_
    refine cR [0, 1] (by kernel_rfl) ?_
    refine oP (r := []) [0, 1] (S' := [(0, .string a0), (2, pb b1), (3, pb b2), (4, iv x5), (7, iv x5)]) (by kernel_rfl) ?_
    refine oD ?_
    refine qT ?_
    refine cQ ?_
    refine cQ ?_
    refine cR [0, 1] (by kernel_rfl) ?_
    refine oP (r := []) [0, 1] (S' := [(0, .string a0), (2, pb b1), (3, pb b2), (4, iv x5), (7, iv x5), (11, .bool (decide (x5 < 16)))]) (by kernel_rfl) ?_
    refine oD ?_
    refine qT ?_
    by_cases hb11 : (decide (x5 < 16)) = true
    ·
     rw [if_pos hb11] at h2
     refine CodT.yes' (b := decide (x5 < 16)) (by kernel_rfl) hb11 ?_
     refine cQ ?_
     refine CodT.drawI (n := 32) [31] (by kernel_rfl) (by kernel_rfl) hI ?_
     intro w hI
     refine GmT.p' 0 12 (iv x5) (by kernel_rfl) (by kernel_rfl) ?_
     refine GmT.p' 1 13 (.string a0) (by kernel_rfl) (by kernel_rfl) ?_
     refine GmT.p' 2 14 (iv x5) (by kernel_rfl) (by kernel_rfl) ?_
     refine GmT.p' 3 15 (iv (wi64 (4 * x5))) (by kernel_rfl) (by kernel_rfl) ?_
     refine GmT.p' 7 19 (.string a0) (by kernel_rfl) (by kernel_rfl) ?_
     refine GmT.p' 8 20 (iv x5) (by kernel_rfl) (by kernel_rfl) ?_
     refine GmT.p' 9 21 (iv (wi64 (4 * x5))) (by kernel_rfl) (by kernel_rfl) ?_
     refine GmT.p' 10 22 (iv (wi64 ((wi64 (4 * x5)) + 1))) (by kernel_rfl) (by kernel_rfl) ?_
     refine GmT.p' 15 27 (.string a0) (by kernel_rfl) (by kernel_rfl) ?_
     refine GmT.p' 16 28 (iv x5) (by kernel_rfl) (by kernel_rfl) ?_
     refine GmT.p' 17 29 (iv (wi64 (4 * x5))) (by kernel_rfl) (by kernel_rfl) ?_
     refine GmT.p' 18 30 (iv (wi64 ((wi64 (4 * x5)) + 2))) (by kernel_rfl) (by kernel_rfl) ?_
     refine GmT.p' 23 35 (.string a0) (by kernel_rfl) (by kernel_rfl) ?_
     refine GmT.p' 24 36 (iv x5) (by kernel_rfl) (by kernel_rfl) ?_
     refine GmT.p' 25 37 (iv (wi64 (4 * x5))) (by kernel_rfl) (by kernel_rfl) ?_
     refine GmT.p' 26 38 (iv (wi64 ((wi64 (4 * x5)) + 3))) (by kernel_rfl) (by kernel_rfl) ?_
     obtain ⟨hg12, h2⟩ := guardS h2
     refine GmT.r (i := 4) 2 (by kernel_rfl) (by kernel_rfl) (Yl.indexStr (d := 16) (T := 9) (k := .i64) (j := wi64 (4 * x5)) (s := a0) (by kernel_rfl) Go.Proofs.Tryd.underlying9 hg12.1 hg12.2) hI ?_
     refine GmT.p' 5 17 (.int .u32 (wu32 (bt a0 (wi64 (4 * x5))))) (by kernel_rfl) (by kernel_rfl) ?_
     refine GmT.p' 6 18 (.int .u32 (bShl .u32 (wu32 (bt a0 (wi64 (4 * x5)))) 24)) (by kernel_rfl) (by kernel_rfl) ?_
     obtain ⟨hg13, h2⟩ := guardS h2
     refine GmT.r (i := 11) 2 (by kernel_rfl) (by kernel_rfl) (Yl.indexStr (d := 23) (T := 9) (k := .i64) (j := wi64 ((wi64 (4 * x5)) + 1)) (s := a0) (by kernel_rfl) Go.Proofs.Tryd.underlying9 hg13.1 hg13.2) hI ?_
     refine GmT.p' 12 24 (.int .u32 (wu32 (bt a0 (wi64 ((wi64 (4 * x5)) + 1))))) (by kernel_rfl) (by kernel_rfl) ?_
     refine GmT.p' 13 25 (.int .u32 (bShl .u32 (wu32 (bt a0 (wi64 ((wi64 (4 * x5)) + 1)))) 16)) (by kernel_rfl) (by kernel_rfl) ?_
     refine GmT.p' 14 26 (.int .u32 (bOr .u32 (bShl .u32 (wu32 (bt a0 (wi64 (4 * x5)))) 24) (bShl .u32 (wu32 (bt a0 (wi64 ((wi64 (4 * x5)) + 1)))) 16))) (by kernel_rfl) (by kernel_rfl) ?_
     obtain ⟨hg14, h2⟩ := guardS h2
     refine GmT.r (i := 19) 2 (by kernel_rfl) (by kernel_rfl) (Yl.indexStr (d := 31) (T := 9) (k := .i64) (j := wi64 ((wi64 (4 * x5)) + 2)) (s := a0) (by kernel_rfl) Go.Proofs.Tryd.underlying9 hg14.1 hg14.2) hI ?_
     refine GmT.p' 20 32 (.int .u32 (wu32 (bt a0 (wi64 ((wi64 (4 * x5)) + 2))))) (by kernel_rfl) (by kernel_rfl) ?_
     refine GmT.p' 21 33 (.int .u32 (bShl .u32 (wu32 (bt a0 (wi64 ((wi64 (4 * x5)) + 2)))) 8)) (by kernel_rfl) (by kernel_rfl) ?_
     refine GmT.p' 22 34 (.int .u32 (bOr .u32 (bOr .u32 (bShl .u32 (wu32 (bt a0 (wi64 (4 * x5)))) 24) (bShl .u32 (wu32 (bt a0 (wi64 ((wi64 (4 * x5)) + 1)))) 16)) (bShl .u32 (wu32 (bt a0 (wi64 ((wi64 (4 * x5)) + 2)))) 8))) (by kernel_rfl) (by kernel_rfl) ?_
     obtain ⟨hg15, h2⟩ := guardS h2
     refine GmT.r (i := 27) 2 (by kernel_rfl) (by kernel_rfl) (Yl.indexStr (d := 39) (T := 9) (k := .i64) (j := wi64 ((wi64 (4 * x5)) + 3)) (s := a0) (by kernel_rfl) Go.Proofs.Tryd.underlying9 hg15.1 hg15.2) hI ?_
     refine GmT.p' 28 40 (.int .u32 (wu32 (bt a0 (wi64 ((wi64 (4 * x5)) + 3))))) (by kernel_rfl) (by kernel_rfl) ?_
     refine GmT.p' 29 41 (.int .u32 (bOr .u32 (bOr .u32 (bOr .u32 (bShl .u32 (wu32 (bt a0 (wi64 (4 * x5)))) 24) (bShl .u32 (wu32 (bt a0 (wi64 ((wi64 (4 * x5)) + 1)))) 16)) (bShl .u32 (wu32 (bt a0 (wi64 ((wi64 (4 * x5)) + 2)))) 8)) (wu32 (bt a0 (wi64 ((wi64 (4 * x5)) + 3)))))) (by kernel_rfl) (by kernel_rfl) ?_
     obtain ⟨hg16, h2⟩ := guardS h2
     refine GmT.r (i := 30) 2 (by kernel_rfl) (by kernel_rfl) (Yl.indexArr (d := 42) (T := 92) (k := .i64) (j := x5) (g := b2) (o := 0) (by kernel_rfl) Go.Proofs.Tryd.underlying92 ty89 hg16.1 hg16.2) hI ?_
     refine GmT.o (i := 31) (by kernel_rfl) (Does.storeArr (e := (Value.int .u32)) (xs := x6) (u := bOr .u32 (bOr .u32 (bOr .u32 (bShl .u32 (wu32 (bt a0 (wi64 (4 * x5)))) 24) (bShl .u32 (wu32 (bt a0 (wi64 ((wi64 (4 * x5)) + 1)))) 16)) (bShl .u32 (wu32 (bt a0 (wi64 ((wi64 (4 * x5)) + 2)))) 8)) (wu32 (bt a0 (wi64 ((wi64 (4 * x5)) + 3))))) (T := 89) (b := b2) (j := x5) (by kernel_rfl) ty89 hI (by kernel_rfl) (by kernel_rfl) hg16.1 (by have := And.intro hl7 hg16.2; omega) ?_)
     intro w hI
     refine ⟨fun h => absurd h (by decide), ?_⟩
     refine GmT.done (by kernel_rfl) ?_
     refine qT ?_
     refine CodT.exit ?_
     refine Qn.exit_then ?_
     refine Qn.block ?_
     have e := someS h2
     subst e
     exact Qn.thenJ fun a ha => ⟨st x6 x5 (bOr .u32 (bOr .u32 (bOr .u32 (bShl .u32 (wu32 (bt a0 (wi64 (4 * x5)))) 24) (bShl .u32 (wu32 (bt a0 (wi64 ((wi64 (4 * x5)) + 1)))) 16)) (bShl .u32 (wu32 (bt a0 (wi64 ((wi64 (4 * x5)) + 2)))) 8)) (wu32 (bt a0 (wi64 ((wi64 (4 * x5)) + 3))))), rfl, ha.keep [0, 2, 3, 7] (by kernel_rfl), hI, ((st_length _ _ _).trans hl7)⟩
    ·
     rw [if_neg hb11] at h2
     refine CodT.no' (b := decide (x5 < 16)) (by kernel_rfl) (by simpa using hb11) ?_
     refine CodT.skip ?_
     refine qT ?_
     refine cQ ?_
     refine CodT.drawI (n := 10) [] (by kernel_rfl) (by kernel_rfl) hI ?_
     intro w hI
     refine GmT.p' 0 43 (iv x5) (by kernel_rfl) (by kernel_rfl) ?_
     refine GmT.p' 1 44 (iv (wi64 (x5 - 15))) (by kernel_rfl) (by kernel_rfl) ?_
     refine GmT.p' 4 47 (iv x5) (by kernel_rfl) (by kernel_rfl) ?_
     refine GmT.p' 5 48 (iv (wi64 (x5 - 2))) (by kernel_rfl) (by kernel_rfl) ?_
     obtain ⟨hg17, h2⟩ := guardS h2
     refine GmT.r (i := 2) 2 (by kernel_rfl) (by kernel_rfl) (Yl.indexArr (d := 45) (T := 92) (k := .i64) (j := wi64 (x5 - 15)) (g := b2) (o := 0) (by kernel_rfl) Go.Proofs.Tryd.underlying92 ty89 hg17.1 hg17.2) hI ?_
     refine GmT.r (i := 3) 2 (by kernel_rfl) (by kernel_rfl) (Yl.load (d := 46) (T := 89) (v := .int .u32 (gt x6 (wi64 (x5 - 15)))) (by kernel_rfl) (ldB ty89 (l := cA (Value.int .u32) x6) (o := 0 + (wi64 (x5 - 15)).toNat * 1) (v := .int .u32 (gt x6 (wi64 (x5 - 15)))) (ent_refl _) (arr_get _ _ hg17.1 (by have := And.intro hl7 hg17.2; omega)))) hI ?_
     refine GmT.p' 8 5 (.int .u32 (gt x6 (wi64 (x5 - 15)))) (by kernel_rfl) (by kernel_rfl) ?_
     obtain ⟨hg18, h2⟩ := guardS h2
     refine GmT.r (i := 6) 2 (by kernel_rfl) (by kernel_rfl) (Yl.indexArr (d := 49) (T := 92) (k := .i64) (j := wi64 (x5 - 2)) (g := b2) (o := 0) (by kernel_rfl) Go.Proofs.Tryd.underlying92 ty89 hg18.1 hg18.2) hI ?_
     refine GmT.r (i := 7) 2 (by kernel_rfl) (by kernel_rfl) (Yl.load (d := 50) (T := 89) (v := .int .u32 (gt x6 (wi64 (x5 - 2)))) (by kernel_rfl) (ldB ty89 (l := cA (Value.int .u32) x6) (o := 0 + (wi64 (x5 - 2)).toNat * 1) (v := .int .u32 (gt x6 (wi64 (x5 - 2)))) (ent_refl _) (arr_get _ _ hg18.1 (by have := And.intro hl7 hg18.2; omega)))) hI ?_
     refine GmT.p' 9 6 (.int .u32 (gt x6 (wi64 (x5 - 2)))) (by kernel_rfl) (by kernel_rfl) ?_
     refine GmT.done (by kernel_rfl) ?_
     refine qT ?_
     refine CodT.drawI (n := 30) [29] (by kernel_rfl) (by kernel_rfl) hI ?_
     intro w hI
     refine GmT.p' 0 51 (iv x5) (by kernel_rfl) (by kernel_rfl) ?_
     refine GmT.p' 1 52 (iv x5) (by kernel_rfl) (by kernel_rfl) ?_
     refine GmT.p' 2 53 (iv (wi64 (x5 - 16))) (by kernel_rfl) (by kernel_rfl) ?_
     refine GmT.p' 5 56 (.int .u32 (gt x6 (wi64 (x5 - 15)))) (by kernel_rfl) (by kernel_rfl) ?_
     refine GmT.p' 7 58 (.int .u32 (gt x6 (wi64 (x5 - 15)))) (by kernel_rfl) (by kernel_rfl) ?_
     refine GmT.p' 10 61 (.int .u32 (gt x6 (wi64 (x5 - 15)))) (by kernel_rfl) (by kernel_rfl) ?_
     refine GmT.p' 11 62 (.int .u32 (bShr .u32 (gt x6 (wi64 (x5 - 15))) 3)) (by kernel_rfl) (by kernel_rfl) ?_
     refine GmT.p' 14 65 (iv x5) (by kernel_rfl) (by kernel_rfl) ?_
     refine GmT.p' 15 66 (iv (wi64 (x5 - 7))) (by kernel_rfl) (by kernel_rfl) ?_
     refine GmT.p' 19 70 (.int .u32 (gt x6 (wi64 (x5 - 2)))) (by kernel_rfl) (by kernel_rfl) ?_
     refine GmT.p' 21 72 (.int .u32 (gt x6 (wi64 (x5 - 2)))) (by kernel_rfl) (by kernel_rfl) ?_
     refine GmT.p' 24 75 (.int .u32 (gt x6 (wi64 (x5 - 2)))) (by kernel_rfl) (by kernel_rfl) ?_
     refine GmT.p' 25 76 (.int .u32 (bShr .u32 (gt x6 (wi64 (x5 - 2))) 10)) (by kernel_rfl) (by kernel_rfl) ?_
     obtain ⟨hg19, h2⟩ := guardS h2
     refine GmT.r (i := 3) 2 (by kernel_rfl) (by kernel_rfl) (Yl.indexArr (d := 54) (T := 92) (k := .i64) (j := wi64 (x5 - 16)) (g := b2) (o := 0) (by kernel_rfl) Go.Proofs.Tryd.underlying92 ty89 hg19.1 hg19.2) hI ?_
     refine GmT.r (i := 4) 2 (by kernel_rfl) (by kernel_rfl) (Yl.load (d := 55) (T := 89) (v := .int .u32 (gt x6 (wi64 (x5 - 16)))) (by kernel_rfl) (ldB ty89 (l := cA (Value.int .u32) x6) (o := 0 + (wi64 (x5 - 16)).toNat * 1) (v := .int .u32 (gt x6 (wi64 (x5 - 16)))) (ent_refl _) (arr_get _ _ hg19.1 (by have := And.intro hl7 hg19.2; omega)))) hI ?_
     obtain ⟨hg20, h2⟩ := guardS h2
     refine GmT.r (i := 16) 2 (by kernel_rfl) (by kernel_rfl) (Yl.indexArr (d := 67) (T := 92) (k := .i64) (j := wi64 (x5 - 7)) (g := b2) (o := 0) (by kernel_rfl) Go.Proofs.Tryd.underlying92 ty89 hg20.1 hg20.2) hI ?_
     refine GmT.r (i := 17) 2 (by kernel_rfl) (by kernel_rfl) (Yl.load (d := 68) (T := 89) (v := .int .u32 (gt x6 (wi64 (x5 - 7)))) (by kernel_rfl) (ldB ty89 (l := cA (Value.int .u32) x6) (o := 0 + (wi64 (x5 - 7)).toNat * 1) (v := .int .u32 (gt x6 (wi64 (x5 - 7)))) (ent_refl _) (arr_get _ _ hg20.1 (by have := And.intro hl7 hg20.2; omega)))) hI ?_
     obtain ⟨y22, hc21, h2⟩ := bindS h2
     try dsimp only at h2
     refine GmT.o (i := 6) (by kernel_rfl) (Does.call (d := some 57) (n := 85) (vs := [.int .u32 (gt x6 (wi64 (x5 - 15))), iv 7]) (by kernel_rfl) en85 (c85 w0 w _ _ hI hT (gt x6 (wi64 (x5 - 15))) 7 _ hc21) ?_)
     rintro e w ⟨rfl, hI⟩
     refine ⟨_, rfl, ?_⟩
     refine ⟨fun _ _ => hI, ?_⟩
     obtain ⟨y24, hc23, h2⟩ := bindS h2
     try dsimp only at h2
     refine GmT.o (i := 8) (by kernel_rfl) (Does.call (d := some 59) (n := 85) (vs := [.int .u32 (gt x6 (wi64 (x5 - 15))), iv 18]) (by kernel_rfl) en85 (c85 w0 w _ _ hI hT (gt x6 (wi64 (x5 - 15))) 18 _ hc23) ?_)
     rintro e w ⟨rfl, hI⟩
     refine ⟨_, rfl, ?_⟩
     refine ⟨fun _ _ => hI, ?_⟩
     refine GmT.p' 9 60 (.int .u32 (bXor .u32 y22 y24)) (by kernel_rfl) (by kernel_rfl) ?_
     refine GmT.p' 12 63 (.int .u32 (bXor .u32 (bXor .u32 y22 y24) (bShr .u32 (gt x6 (wi64 (x5 - 15))) 3))) (by kernel_rfl) (by kernel_rfl) ?_
     refine GmT.p' 13 64 (.int .u32 (wu32 ((gt x6 (wi64 (x5 - 16))) + (bXor .u32 (bXor .u32 y22 y24) (bShr .u32 (gt x6 (wi64 (x5 - 15))) 3))))) (by kernel_rfl) (by kernel_rfl) ?_
     refine GmT.p' 18 69 (.int .u32 (wu32 ((wu32 ((gt x6 (wi64 (x5 - 16))) + (bXor .u32 (bXor .u32 y22 y24) (bShr .u32 (gt x6 (wi64 (x5 - 15))) 3)))) + (gt x6 (wi64 (x5 - 7)))))) (by kernel_rfl) (by kernel_rfl) ?_
     obtain ⟨y26, hc25, h2⟩ := bindS h2
     try dsimp only at h2
     refine GmT.o (i := 20) (by kernel_rfl) (Does.call (d := some 71) (n := 85) (vs := [.int .u32 (gt x6 (wi64 (x5 - 2))), iv 17]) (by kernel_rfl) en85 (c85 w0 w _ _ hI hT (gt x6 (wi64 (x5 - 2))) 17 _ hc25) ?_)
     rintro e w ⟨rfl, hI⟩
     refine ⟨_, rfl, ?_⟩
     refine ⟨fun _ _ => hI, ?_⟩
     obtain ⟨y28, hc27, h2⟩ := bindS h2
     try dsimp only at h2
     refine GmT.o (i := 22) (by kernel_rfl) (Does.call (d := some 73) (n := 85) (vs := [.int .u32 (gt x6 (wi64 (x5 - 2))), iv 19]) (by kernel_rfl) en85 (c85 w0 w _ _ hI hT (gt x6 (wi64 (x5 - 2))) 19 _ hc27) ?_)
     rintro e w ⟨rfl, hI⟩
     refine ⟨_, rfl, ?_⟩
     refine ⟨fun _ _ => hI, ?_⟩
     refine GmT.p' 23 74 (.int .u32 (bXor .u32 y26 y28)) (by kernel_rfl) (by kernel_rfl) ?_
     refine GmT.p' 26 77 (.int .u32 (bXor .u32 (bXor .u32 y26 y28) (bShr .u32 (gt x6 (wi64 (x5 - 2))) 10))) (by kernel_rfl) (by kernel_rfl) ?_
     refine GmT.p' 27 78 (.int .u32 (wu32 ((wu32 ((wu32 ((gt x6 (wi64 (x5 - 16))) + (bXor .u32 (bXor .u32 y22 y24) (bShr .u32 (gt x6 (wi64 (x5 - 15))) 3)))) + (gt x6 (wi64 (x5 - 7))))) + (bXor .u32 (bXor .u32 y26 y28) (bShr .u32 (gt x6 (wi64 (x5 - 2))) 10))))) (by kernel_rfl) (by kernel_rfl) ?_
     obtain ⟨hg29, h2⟩ := guardS h2
     refine GmT.r (i := 28) 2 (by kernel_rfl) (by kernel_rfl) (Yl.indexArr (d := 79) (T := 92) (k := .i64) (j := x5) (g := b2) (o := 0) (by kernel_rfl) Go.Proofs.Tryd.underlying92 ty89 hg29.1 hg29.2) hI ?_
     refine GmT.o (i := 29) (by kernel_rfl) (Does.storeArr (e := (Value.int .u32)) (xs := x6) (u := wu32 ((wu32 ((wu32 ((gt x6 (wi64 (x5 - 16))) + (bXor .u32 (bXor .u32 y22 y24) (bShr .u32 (gt x6 (wi64 (x5 - 15))) 3)))) + (gt x6 (wi64 (x5 - 7))))) + (bXor .u32 (bXor .u32 y26 y28) (bShr .u32 (gt x6 (wi64 (x5 - 2))) 10)))) (T := 89) (b := b2) (j := x5) (by kernel_rfl) ty89 hI (by kernel_rfl) (by kernel_rfl) hg29.1 (by have := And.intro hl7 hg29.2; omega) ?_)
     intro w hI
     refine ⟨fun h => absurd h (by decide), ?_⟩
     refine GmT.done (by kernel_rfl) ?_
     refine Qn.block_normal ?_
     have e := someS h2
     subst e
     exact Qn.thenJ fun a ha => ⟨st x6 x5 (wu32 ((wu32 ((wu32 ((gt x6 (wi64 (x5 - 16))) + (bXor .u32 (bXor .u32 y22 y24) (bShr .u32 (gt x6 (wi64 (x5 - 15))) 3)))) + (gt x6 (wi64 (x5 - 7))))) + (bXor .u32 (bXor .u32 y26 y28) (bShr .u32 (gt x6 (wi64 (x5 - 2))) 10)))), rfl, ha.keep [0, 2, 3, 7] (by kernel_rfl), hI, ((st_length _ _ _).trans hl7)⟩
   ·
    rintro a w ⟨x9, rfl, ha, hI, hl10⟩
    try dsimp only at h1
    refine CodT.of ?_ ha
    refine cR [0, 1] (by kernel_rfl) ?_
    refine oP (r := []) [0, 1] (S' := [(0, .string a0), (2, pb b1), (3, pb b2), (7, iv (wi64 (x5 + 1)))]) (by kernel_rfl) ?_
    refine oD ?_
    exact Qn.thenJ fun a ha => ⟨k, Nat.lt_succ_self k, wi64 (x5 + 1), x9, h1, ha.keep [0, 2, 3, 7] (by kernel_rfl), hI, hl10⟩
  ·
   rw [if_neg hb8] at h1
   refine CodT.no' (b := decide (x5 < 64)) (by kernel_rfl) (by simpa using hb8) ?_
   refine CodT.exit ?_
   refine Qn.exit_then ?_
   refine Qn.exit_then ?_
   refine Qn.block ?_
   have e := someS h1
   subst e
   exact Qn.thenJ fun a ha => ⟨x6, rfl, ha.keep [2, 3] (by kernel_rfl), hI, hl7⟩
 ·
  rintro a w ⟨x3, rfl, ha, hI, hl4⟩
  try dsimp only at h0
  refine Qn.of ?_ ha
  refine qT ?_
  refine cQ ?_
  refine cR [0, 1] (by kernel_rfl) ?_
  refine oC (Does.yi (Yl.load (d := 81) (T := 92) (v := .agg (cA (Value.int .u32) x3).toArray) (by kernel_rfl) (ldBN ty92 (l := cA (Value.int .u32) x3) (o := 0) (cs := cA (Value.int .u32) x3) (ent_refl _) ((cA_length _ _).trans hl4) (whole _ _ ((cA_length _ _).trans hl4)))) hI ?_)
  have hI := hI.mono (pick2 _ _ _)
  refine oC (Does.storeAll (T := 92) (b := b1) (n := 64) (xs := (List.replicate 64 (0 : Int))) (ys := x3) (by kernel_rfl) ty92 hI (fun _ => rfl) (by kernel_rfl) hl4 ?_)
  intro w hI
  refine oD ?_
  refine qT ?_
  refine CodT.ret ?_
  have hL30 := (ldBN ty92 (l := cA (Value.int .u32) x3) (o := 0) (cs := cA (Value.int .u32) x3) (ent_refl _) ((cA_length _ _).trans hl4) (whole _ _ ((cA_length _ _).trans hl4))) w hI
  have hI := hI.drop
  have hI := hI.drop
  have e := someS h0
  subst e
  refine qK [2] (S' := [(2, pb b1)]) (by kernel_rfl) ?_
  exact post_ret (v := .agg (cA (Value.int .u32) x3).toArray) (fun a ha => RunRes.run (vs := [.agg (cA (Value.int .u32) x3).toArray]) (.cell (t := 2) (T := 92) (ad := ⟨b1, 0, none⟩) (by kernel_rfl) hL30 .nil) ha (by kernel_rfl)) ⟨rfl, hl4, hI⟩
/-- cenotaph/sha.mix -/
theorem c79 (w0 w : World) (Z : Hp) (A : HP) (hI : Inv w0 Z w A) (hT : Tabs Z) (a0 : (List Int)) (hl_a0 : a0.length = 8) (a1 : (List Int)) (hl_a1 : a1.length = 64) (a2 : ByteArray) (r : (List Int)) (h0 : sha_mix a0 a1 a2 = some r) :
  Calls prog 79 #[.agg (cA (Value.int .u32) a0).toArray, .agg (cA (Value.int .u32) a1).toArray, .string a2] w (fun e w' => e = .returned (.agg (cA (Value.int .u32) r).toArray) ∧ r.length = 8 ∧ Inv w0 Z w' A) := by
 have e4 := calls_intro (R := (fun e w' => e = .returned (.agg (cA (Value.int .u32) r).toArray) ∧ r.length = 8 ∧ Inv w0 Z w' A)) (w := w) (args := [.agg (cA (Value.int .u32) a0).toArray, .agg (cA (Value.int .u32) a1).toArray, .string a2]) (fn := Go.Proofs.Tryd.f79) 104 Go.Proofs.Tryd.func79 (by rfl) Go.Proofs.Tryd.ntmps79 (by kernel_rfl)
 refine e4 ?_
 clear e4
 unfold sha_mix at h0
 refine cQ ?_
 refine cR [0, 1, 2] (by kernel_rfl) ?_
 refine oC (Does.boxL (d := 3) (T := 90) (v := .agg (cA (Value.int .u32) a0).toArray) (cA (Value.int .u32) a0) (by kernel_rfl) hI (by kernel_rfl) ?_)
 intro b1 w hI
 refine oC (Does.boxL (d := 4) (T := 92) (v := .agg (cA (Value.int .u32) a1).toArray) (cA (Value.int .u32) a1) (by kernel_rfl) hI (by kernel_rfl) ?_)
 intro b2 w hI
 refine oC (Does.allocL (d := 6) (T := 90) (cA (Value.int .u32) (List.replicate 8 (0 : Int))) (by kernel_rfl) ty90 hI (by kernel_rfl) ?_)
 intro b3 w hI
 refine oD ?_
 refine qT ?_
 refine cQ ?_
 refine cR [0, 1, 2] (by kernel_rfl) ?_
 refine oC (Does.yi (Yl.load (d := 15) (T := 90) (v := .agg (cA (Value.int .u32) a0).toArray) (by kernel_rfl) (ldBN ty90 (l := cA (Value.int .u32) a0) (o := 0) (cs := cA (Value.int .u32) a0) (pick3 _ _ _ _) ((cA_length _ _).trans hl_a0) (whole _ _ ((cA_length _ _).trans hl_a0)))) hI ?_)
 refine oC (Does.allocL (d := 7) (T := 90) (cA (Value.int .u32) (List.replicate 8 (0 : Int))) (by kernel_rfl) ty90 hI (by kernel_rfl) ?_)
 intro b4 w hI
 refine oC (Does.storeAll (T := 90) (b := b4) (n := 8) (xs := (List.replicate 8 (0 : Int))) (ys := a0) (by kernel_rfl) ty90 hI (fun _ => rfl) (by kernel_rfl) hl_a0 ?_)
 intro w hI
 refine oD ?_
 refine qT ?_
 refine cQ ?_
 refine cQ ?_
 refine cR [0, 1, 2] (by kernel_rfl) ?_
 refine oP (r := [1, 2]) [0] (S' := [(3, pb b1), (4, pb b2), (6, pb b3), (7, pb b4), (16, .string a2)]) (by kernel_rfl) ?_
 obtain ⟨y6, hc5, h0⟩ := bindS h0
 try dsimp only at h0
 refine oC (Does.call (d := some 17) (n := 84) (vs := [.string a2]) (by kernel_rfl) en84 (c84 w0 w _ _ hI hT a2 _ hc5) ?_)
 rintro e w ⟨rfl, hl7, hI⟩
 refine ⟨_, rfl, ?_⟩
 refine oP (r := []) [2] (S' := [(3, pb b1), (4, pb b2), (6, pb b3), (7, pb b4), (17, .agg (cA (Value.int .u32) y6).toArray), (18, iv 0)]) (by kernel_rfl) ?_
 refine oD ?_
 refine qT ?_
 obtain ⟨r1, h1, h0⟩ := bindS h0
 refine CodT.meet1 (fun a w => ∃ (x8 : (List Int)), x8 = r1 ∧ Fr 104 [(3, pb b1), (6, pb b3), (7, pb b4)] a ∧ Inv w0 Z w (star (pt b4 (.cells (cA (Value.int .u32) x8).toArray 90 (0, 0))) (star (pt b3 (.cells (cA (Value.int .u32) (List.replicate 8 (0 : Int))).toArray 90 (0, 0))) (star (pt b1 (.cells (cA (Value.int .u32) a0).toArray 90 (0, 0))) A))) ∧ x8.length = 8) ?_ ?_
 ·
  refine CodT.block ?_
  refine (fun a ha => wp_loopN (fun k a w => ∃ (x10 : Int) (x11 : (List Int)), sha_mix.l0 a1 y6 k x10 x11 = some r1 ∧ Fr 104 [(3, pb b1), (4, pb b2), (6, pb b3), (7, pb b4), (17, .agg (cA (Value.int .u32) y6).toArray), (18, iv x10)] a ∧ Inv w0 Z w (star (pt b4 (.cells (cA (Value.int .u32) x11).toArray 90 (0, 0))) (star (pt b3 (.cells (cA (Value.int .u32) (List.replicate 8 (0 : Int))).toArray 90 (0, 0))) (star (pt b2 (.cells (cA (Value.int .u32) a1).toArray 92 (0, 0))) (star (pt b1 (.cells (cA (Value.int .u32) a0).toArray 90 (0, 0))) A)))) ∧ x11.length = 8) ?_ FU a w ⟨0, a0, h1, ha.keep [3, 4, 6, 7, 17, 18] (by kernel_rfl), hI, hl_a0⟩)
  clear h1 hI
  rintro k a w ⟨x10, x11, h1, ha, hI, hl12⟩
  rcases k with _ | k
  ·
   cases h1
  simp only [sha_mix.l0] at h1
  refine CodT.of ?_ ha
  refine cQ ?_
  refine cR [0] (by kernel_rfl) ?_
  refine oP (r := []) [0] (S' := [(3, pb b1), (4, pb b2), (6, pb b3), (7, pb b4), (17, .agg (cA (Value.int .u32) y6).toArray), (18, iv x10), (19, .bool (decide (x10 < 64)))]) (by kernel_rfl) ?_
  refine oD ?_
  refine qT ?_
  refine cQ ?_
  by_cases hb13 : (decide (x10 < 64)) = true
  ·
   rw [if_pos hb13] at h1
   refine CodT.yes' (b := decide (x10 < 64)) (by kernel_rfl) hb13 ?_
   refine CodT.skip ?_
   refine qT ?_
   refine cQ ?_
   refine CodT.block ?_
   refine cQ ?_
   refine cR [0, 1, 2, 3] (by kernel_rfl) ?_
   refine oP (r := [1, 2, 3]) [0] (S' := [(3, pb b1), (4, pb b2), (6, pb b3), (7, pb b4), (17, .agg (cA (Value.int .u32) y6).toArray), (18, iv x10), (20, iv x10)]) (by kernel_rfl) ?_
   obtain ⟨hg14, h1⟩ := guardS h1
   refine oC (Does.yi (Yl.indexAgg (d := 21) (T := 92) (k := .i64) (j := x10) (l := cA (Value.int .u32) y6) (v := .int .u32 (gt y6 x10)) (by kernel_rfl) Go.Proofs.Tryd.underlying92 ty89 hg14.1 hg14.2 (arr_get' _ _ hg14.1 (by have := And.intro hl7 hg14.2; omega))) hI ?_)
   refine oP (r := []) [2, 3] (S' := [(3, pb b1), (4, pb b2), (6, pb b3), (7, pb b4), (8, iv x10), (9, .int .u32 (gt y6 x10)), (17, .agg (cA (Value.int .u32) y6).toArray), (18, iv x10)]) (by kernel_rfl) ?_
   refine oD ?_
   refine qT ?_
   refine cQ ?_
   refine CodT.drawI (n := 6) [] (by kernel_rfl) (by kernel_rfl) hI ?_
   intro w hI
   refine GmT.p' 0 22 (pb b4) (by kernel_rfl) (by kernel_rfl) ?_
   refine GmT.p' 2 24 (.pointer (some ⟨b4, 4, none⟩)) (by kernel_rfl) (by kernel_rfl) ?_
   refine GmT.r (i := 1) 2 (by kernel_rfl) (by kernel_rfl) (Yl.load (d := 23) (T := 89) (v := .int .u32 (gt x11 0)) (by kernel_rfl) (ldB ty89 (l := cA (Value.int .u32) x11) (o := 0) (v := .int .u32 (gt x11 0)) (ent_refl _) (arr_getC _ _ 0 hl12 (by kernel_rfl)))) hI ?_
   refine GmT.p' 4 10 (.int .u32 (gt x11 0)) (by kernel_rfl) (by kernel_rfl) ?_
   refine GmT.r (i := 3) 2 (by kernel_rfl) (by kernel_rfl) (Yl.load (d := 25) (T := 89) (v := .int .u32 (gt x11 4)) (by kernel_rfl) (ldB ty89 (l := cA (Value.int .u32) x11) (o := 4) (v := .int .u32 (gt x11 4)) (ent_refl _) (arr_getC _ _ 4 hl12 (by kernel_rfl)))) hI ?_
   refine GmT.p' 5 11 (.int .u32 (gt x11 4)) (by kernel_rfl) (by kernel_rfl) ?_
   refine GmT.done (by kernel_rfl) ?_
   refine qT ?_
   refine cQ ?_
   refine CodT.drawI (n := 29) [] (by kernel_rfl) (by kernel_rfl) hI ?_
   intro w hI
   refine GmT.p' 0 26 (.pointer (some ⟨b4, 7, none⟩)) (by kernel_rfl) (by kernel_rfl) ?_
   refine GmT.p' 2 28 (.int .u32 (gt x11 4)) (by kernel_rfl) (by kernel_rfl) ?_
   refine GmT.p' 4 30 (.int .u32 (gt x11 4)) (by kernel_rfl) (by kernel_rfl) ?_
   refine GmT.p' 7 33 (.int .u32 (gt x11 4)) (by kernel_rfl) (by kernel_rfl) ?_
   refine GmT.p' 11 37 (.int .u32 (gt x11 4)) (by kernel_rfl) (by kernel_rfl) ?_
   refine GmT.p' 12 38 (.pointer (some ⟨b4, 5, none⟩)) (by kernel_rfl) (by kernel_rfl) ?_
   refine GmT.p' 15 41 (.int .u32 (gt x11 4)) (by kernel_rfl) (by kernel_rfl) ?_
   refine GmT.p' 16 42 (.int .u32 (bNot .u32 (gt x11 4))) (by kernel_rfl) (by kernel_rfl) ?_
   refine GmT.p' 17 43 (.pointer (some ⟨b4, 6, none⟩)) (by kernel_rfl) (by kernel_rfl) ?_
   refine GmT.p' 22 48 (iv x10) (by kernel_rfl) (by kernel_rfl) ?_
   refine GmT.p' 26 52 (.int .u32 (gt y6 x10)) (by kernel_rfl) (by kernel_rfl) ?_
   refine GmT.r (i := 1) 2 (by kernel_rfl) (by kernel_rfl) (Yl.load (d := 27) (T := 89) (v := .int .u32 (gt x11 7)) (by kernel_rfl) (ldB ty89 (l := cA (Value.int .u32) x11) (o := 7) (v := .int .u32 (gt x11 7)) (ent_refl _) (arr_getC _ _ 7 hl12 (by kernel_rfl)))) hI ?_
   refine GmT.r (i := 13) 2 (by kernel_rfl) (by kernel_rfl) (Yl.load (d := 39) (T := 89) (v := .int .u32 (gt x11 5)) (by kernel_rfl) (ldB ty89 (l := cA (Value.int .u32) x11) (o := 5) (v := .int .u32 (gt x11 5)) (ent_refl _) (arr_getC _ _ 5 hl12 (by kernel_rfl)))) hI ?_
   refine GmT.p' 14 40 (.int .u32 (bAnd .u32 (gt x11 4) (gt x11 5))) (by kernel_rfl) (by kernel_rfl) ?_
   refine GmT.r (i := 18) 2 (by kernel_rfl) (by kernel_rfl) (Yl.load (d := 44) (T := 89) (v := .int .u32 (gt x11 6)) (by kernel_rfl) (ldB ty89 (l := cA (Value.int .u32) x11) (o := 6) (v := .int .u32 (gt x11 6)) (ent_refl _) (arr_getC _ _ 6 hl12 (by kernel_rfl)))) hI ?_
   refine GmT.p' 19 45 (.int .u32 (bAnd .u32 (bNot .u32 (gt x11 4)) (gt x11 6))) (by kernel_rfl) (by kernel_rfl) ?_
   refine GmT.p' 20 46 (.int .u32 (bXor .u32 (bAnd .u32 (gt x11 4) (gt x11 5)) (bAnd .u32 (bNot .u32 (gt x11 4)) (gt x11 6)))) (by kernel_rfl) (by kernel_rfl) ?_
   obtain ⟨hg15, h1⟩ := guardS h1
   refine GmT.r (i := 23) 2 (by kernel_rfl) (by kernel_rfl) (Yl.indexArr (d := 49) (T := 92) (k := .i64) (j := x10) (g := b2) (o := 0) (by kernel_rfl) Go.Proofs.Tryd.underlying92 ty89 hg15.1 hg15.2) hI ?_
   refine GmT.r (i := 24) 2 (by kernel_rfl) (by kernel_rfl) (Yl.load (d := 50) (T := 89) (v := .int .u32 (gt a1 x10)) (by kernel_rfl) (ldB ty89 (l := cA (Value.int .u32) a1) (o := 0 + x10.toNat * 1) (v := .int .u32 (gt a1 x10)) (pick3 _ _ _ _) (arr_get _ _ hg15.1 (by have := And.intro hl_a1 hg15.2; omega)))) hI ?_
   obtain ⟨y17, hc16, h1⟩ := bindS h1
   try dsimp only at h1
   refine GmT.o (i := 3) (by kernel_rfl) (Does.call (d := some 29) (n := 85) (vs := [.int .u32 (gt x11 4), iv 6]) (by kernel_rfl) en85 (c85 w0 w _ _ hI hT (gt x11 4) 6 _ hc16) ?_)
   rintro e w ⟨rfl, hI⟩
   refine ⟨_, rfl, ?_⟩
   refine ⟨fun _ _ => hI, ?_⟩
   obtain ⟨y19, hc18, h1⟩ := bindS h1
   try dsimp only at h1
   refine GmT.o (i := 5) (by kernel_rfl) (Does.call (d := some 31) (n := 85) (vs := [.int .u32 (gt x11 4), iv 11]) (by kernel_rfl) en85 (c85 w0 w _ _ hI hT (gt x11 4) 11 _ hc18) ?_)
   rintro e w ⟨rfl, hI⟩
   refine ⟨_, rfl, ?_⟩
   refine ⟨fun _ _ => hI, ?_⟩
   refine GmT.p' 6 32 (.int .u32 (bXor .u32 y17 y19)) (by kernel_rfl) (by kernel_rfl) ?_
   obtain ⟨y21, hc20, h1⟩ := bindS h1
   try dsimp only at h1
   refine GmT.o (i := 8) (by kernel_rfl) (Does.call (d := some 34) (n := 85) (vs := [.int .u32 (gt x11 4), iv 25]) (by kernel_rfl) en85 (c85 w0 w _ _ hI hT (gt x11 4) 25 _ hc20) ?_)
   rintro e w ⟨rfl, hI⟩
   refine ⟨_, rfl, ?_⟩
   refine ⟨fun _ _ => hI, ?_⟩
   refine GmT.p' 9 35 (.int .u32 (bXor .u32 (bXor .u32 y17 y19) y21)) (by kernel_rfl) (by kernel_rfl) ?_
   refine GmT.p' 10 36 (.int .u32 (wu32 ((gt x11 7) + (bXor .u32 (bXor .u32 y17 y19) y21)))) (by kernel_rfl) (by kernel_rfl) ?_
   refine GmT.p' 21 47 (.int .u32 (wu32 ((wu32 ((gt x11 7) + (bXor .u32 (bXor .u32 y17 y19) y21))) + (bXor .u32 (bAnd .u32 (gt x11 4) (gt x11 5)) (bAnd .u32 (bNot .u32 (gt x11 4)) (gt x11 6)))))) (by kernel_rfl) (by kernel_rfl) ?_
   refine GmT.p' 25 51 (.int .u32 (wu32 ((wu32 ((wu32 ((gt x11 7) + (bXor .u32 (bXor .u32 y17 y19) y21))) + (bXor .u32 (bAnd .u32 (gt x11 4) (gt x11 5)) (bAnd .u32 (bNot .u32 (gt x11 4)) (gt x11 6))))) + (gt a1 x10)))) (by kernel_rfl) (by kernel_rfl) ?_
   refine GmT.p' 27 53 (.int .u32 (wu32 ((wu32 ((wu32 ((wu32 ((gt x11 7) + (bXor .u32 (bXor .u32 y17 y19) y21))) + (bXor .u32 (bAnd .u32 (gt x11 4) (gt x11 5)) (bAnd .u32 (bNot .u32 (gt x11 4)) (gt x11 6))))) + (gt a1 x10))) + (gt y6 x10)))) (by kernel_rfl) (by kernel_rfl) ?_
   refine GmT.p' 28 12 (.int .u32 (wu32 ((wu32 ((wu32 ((wu32 ((gt x11 7) + (bXor .u32 (bXor .u32 y17 y19) y21))) + (bXor .u32 (bAnd .u32 (gt x11 4) (gt x11 5)) (bAnd .u32 (bNot .u32 (gt x11 4)) (gt x11 6))))) + (gt a1 x10))) + (gt y6 x10)))) (by kernel_rfl) (by kernel_rfl) ?_
   refine GmT.done (by kernel_rfl) ?_
   refine qT ?_
   refine cQ ?_
   refine CodT.drawI (n := 25) [] (by kernel_rfl) (by kernel_rfl) hI ?_
   intro w hI
   refine GmT.p' 0 54 (.int .u32 (gt x11 0)) (by kernel_rfl) (by kernel_rfl) ?_
   refine GmT.p' 2 56 (.int .u32 (gt x11 0)) (by kernel_rfl) (by kernel_rfl) ?_
   refine GmT.p' 5 59 (.int .u32 (gt x11 0)) (by kernel_rfl) (by kernel_rfl) ?_
   refine GmT.p' 8 62 (.int .u32 (gt x11 0)) (by kernel_rfl) (by kernel_rfl) ?_
   refine GmT.p' 9 63 (.pointer (some ⟨b4, 1, none⟩)) (by kernel_rfl) (by kernel_rfl) ?_
   refine GmT.p' 12 66 (.int .u32 (gt x11 0)) (by kernel_rfl) (by kernel_rfl) ?_
   refine GmT.p' 13 67 (.pointer (some ⟨b4, 2, none⟩)) (by kernel_rfl) (by kernel_rfl) ?_
   refine GmT.p' 17 71 (.pointer (some ⟨b4, 1, none⟩)) (by kernel_rfl) (by kernel_rfl) ?_
   refine GmT.p' 19 73 (.pointer (some ⟨b4, 2, none⟩)) (by kernel_rfl) (by kernel_rfl) ?_
   refine GmT.r (i := 10) 2 (by kernel_rfl) (by kernel_rfl) (Yl.load (d := 64) (T := 89) (v := .int .u32 (gt x11 1)) (by kernel_rfl) (ldB ty89 (l := cA (Value.int .u32) x11) (o := 1) (v := .int .u32 (gt x11 1)) (ent_refl _) (arr_getC _ _ 1 hl12 (by kernel_rfl)))) hI ?_
   refine GmT.p' 11 65 (.int .u32 (bAnd .u32 (gt x11 0) (gt x11 1))) (by kernel_rfl) (by kernel_rfl) ?_
   refine GmT.r (i := 14) 2 (by kernel_rfl) (by kernel_rfl) (Yl.load (d := 68) (T := 89) (v := .int .u32 (gt x11 2)) (by kernel_rfl) (ldB ty89 (l := cA (Value.int .u32) x11) (o := 2) (v := .int .u32 (gt x11 2)) (ent_refl _) (arr_getC _ _ 2 hl12 (by kernel_rfl)))) hI ?_
   refine GmT.p' 15 69 (.int .u32 (bAnd .u32 (gt x11 0) (gt x11 2))) (by kernel_rfl) (by kernel_rfl) ?_
   refine GmT.p' 16 70 (.int .u32 (bXor .u32 (bAnd .u32 (gt x11 0) (gt x11 1)) (bAnd .u32 (gt x11 0) (gt x11 2)))) (by kernel_rfl) (by kernel_rfl) ?_
   refine GmT.r (i := 18) 2 (by kernel_rfl) (by kernel_rfl) (Yl.load (d := 72) (T := 89) (v := .int .u32 (gt x11 1)) (by kernel_rfl) (ldB ty89 (l := cA (Value.int .u32) x11) (o := 1) (v := .int .u32 (gt x11 1)) (ent_refl _) (arr_getC _ _ 1 hl12 (by kernel_rfl)))) hI ?_
   refine GmT.r (i := 20) 2 (by kernel_rfl) (by kernel_rfl) (Yl.load (d := 74) (T := 89) (v := .int .u32 (gt x11 2)) (by kernel_rfl) (ldB ty89 (l := cA (Value.int .u32) x11) (o := 2) (v := .int .u32 (gt x11 2)) (ent_refl _) (arr_getC _ _ 2 hl12 (by kernel_rfl)))) hI ?_
   refine GmT.p' 21 75 (.int .u32 (bAnd .u32 (gt x11 1) (gt x11 2))) (by kernel_rfl) (by kernel_rfl) ?_
   refine GmT.p' 22 76 (.int .u32 (bXor .u32 (bXor .u32 (bAnd .u32 (gt x11 0) (gt x11 1)) (bAnd .u32 (gt x11 0) (gt x11 2))) (bAnd .u32 (gt x11 1) (gt x11 2)))) (by kernel_rfl) (by kernel_rfl) ?_
   obtain ⟨y23, hc22, h1⟩ := bindS h1
   try dsimp only at h1
   refine GmT.o (i := 1) (by kernel_rfl) (Does.call (d := some 55) (n := 85) (vs := [.int .u32 (gt x11 0), iv 2]) (by kernel_rfl) en85 (c85 w0 w _ _ hI hT (gt x11 0) 2 _ hc22) ?_)
   rintro e w ⟨rfl, hI⟩
   refine ⟨_, rfl, ?_⟩
   refine ⟨fun _ _ => hI, ?_⟩
   obtain ⟨y25, hc24, h1⟩ := bindS h1
   try dsimp only at h1
   refine GmT.o (i := 3) (by kernel_rfl) (Does.call (d := some 57) (n := 85) (vs := [.int .u32 (gt x11 0), iv 13]) (by kernel_rfl) en85 (c85 w0 w _ _ hI hT (gt x11 0) 13 _ hc24) ?_)
   rintro e w ⟨rfl, hI⟩
   refine ⟨_, rfl, ?_⟩
   refine ⟨fun _ _ => hI, ?_⟩
   refine GmT.p' 4 58 (.int .u32 (bXor .u32 y23 y25)) (by kernel_rfl) (by kernel_rfl) ?_
   obtain ⟨y27, hc26, h1⟩ := bindS h1
   try dsimp only at h1
   refine GmT.o (i := 6) (by kernel_rfl) (Does.call (d := some 60) (n := 85) (vs := [.int .u32 (gt x11 0), iv 22]) (by kernel_rfl) en85 (c85 w0 w _ _ hI hT (gt x11 0) 22 _ hc26) ?_)
   rintro e w ⟨rfl, hI⟩
   refine ⟨_, rfl, ?_⟩
   refine ⟨fun _ _ => hI, ?_⟩
   refine GmT.p' 7 61 (.int .u32 (bXor .u32 (bXor .u32 y23 y25) y27)) (by kernel_rfl) (by kernel_rfl) ?_
   refine GmT.p' 23 77 (.int .u32 (wu32 ((bXor .u32 (bXor .u32 y23 y25) y27) + (bXor .u32 (bXor .u32 (bAnd .u32 (gt x11 0) (gt x11 1)) (bAnd .u32 (gt x11 0) (gt x11 2))) (bAnd .u32 (gt x11 1) (gt x11 2)))))) (by kernel_rfl) (by kernel_rfl) ?_
   refine GmT.p' 24 13 (.int .u32 (wu32 ((bXor .u32 (bXor .u32 y23 y25) y27) + (bXor .u32 (bXor .u32 (bAnd .u32 (gt x11 0) (gt x11 1)) (bAnd .u32 (gt x11 0) (gt x11 2))) (bAnd .u32 (gt x11 1) (gt x11 2)))))) (by kernel_rfl) (by kernel_rfl) ?_
   refine GmT.done (by kernel_rfl) ?_
   refine qT ?_
   refine cQ ?_
   refine CodT.drawI (n := 3) [2] (by kernel_rfl) (by kernel_rfl) hI ?_
   intro w hI
   refine GmT.p' 0 78 (.slice (some ⟨b4, 1, none⟩) 7 7) (by kernel_rfl) (by kernel_rfl) ?_
   refine GmT.p' 1 79 (.slice (some ⟨b4, 0, none⟩) 7 8) (by kernel_rfl) (by kernel_rfl) ?_
   refine GmT.o (i := 2) (by kernel_rfl) (Does.copyArr (d := 80) (ty := 3) (dT := 109) (sT := 109) (e := (Value.int .u32)) (xs := x11) (b := b4) (o1 := 1) (m1 := 7) (c1 := 7) (o2 := 0) (m2 := 7) (c2 := 8) (n := 7) (m := 8) (by kernel_rfl) Go.Proofs.Tryd.underlying109 ty89 hl12 (by kernel_rfl) (by kernel_rfl) (by kernel_rfl) (fun _ => rfl) hI ?_)
   intro w hI
   refine ⟨fun h => absurd h (by decide), ?_⟩
   refine GmT.done (by kernel_rfl) ?_
   refine qT ?_
   refine cQ ?_
   refine cR [0, 1, 2, 3, 4] (by kernel_rfl) ?_
   refine oP (r := [4]) [0, 1, 2, 3] (S' := [(3, pb b1), (4, pb b2), (6, pb b3), (7, pb b4), (12, .int .u32 (wu32 ((wu32 ((wu32 ((wu32 ((gt x11 7) + (bXor .u32 (bXor .u32 y17 y19) y21))) + (bXor .u32 (bAnd .u32 (gt x11 4) (gt x11 5)) (bAnd .u32 (bNot .u32 (gt x11 4)) (gt x11 6))))) + (gt a1 x10))) + (gt y6 x10)))), (17, .agg (cA (Value.int .u32) y6).toArray), (18, iv x10), (83, .int .u32 (wu32 ((wu32 ((wu32 ((wu32 ((wu32 ((gt x11 7) + (bXor .u32 (bXor .u32 y17 y19) y21))) + (bXor .u32 (bAnd .u32 (gt x11 4) (gt x11 5)) (bAnd .u32 (bNot .u32 (gt x11 4)) (gt x11 6))))) + (gt a1 x10))) + (gt y6 x10))) + (wu32 ((bXor .u32 (bXor .u32 y23 y25) y27) + (bXor .u32 (bXor .u32 (bAnd .u32 (gt x11 0) (gt x11 1)) (bAnd .u32 (gt x11 0) (gt x11 2))) (bAnd .u32 (gt x11 1) (gt x11 2)))))))), (84, pb b4)]) (by kernel_rfl) ?_
   refine oC (Does.storeArrC (e := (Value.int .u32)) (xs := cpy x11 1 0 7) (u := wu32 ((wu32 ((wu32 ((wu32 ((wu32 ((gt x11 7) + (bXor .u32 (bXor .u32 y17 y19) y21))) + (bXor .u32 (bAnd .u32 (gt x11 4) (gt x11 5)) (bAnd .u32 (bNot .u32 (gt x11 4)) (gt x11 6))))) + (gt a1 x10))) + (gt y6 x10))) + (wu32 ((bXor .u32 (bXor .u32 y23 y25) y27) + (bXor .u32 (bXor .u32 (bAnd .u32 (gt x11 0) (gt x11 1)) (bAnd .u32 (gt x11 0) (gt x11 2))) (bAnd .u32 (gt x11 1) (gt x11 2))))))) (T := 89) (b := b4) (n := 0) (by kernel_rfl) ty89 hI (by kernel_rfl) (by kernel_rfl) (cpy_length _ _ _ _ _ hl12 (by kernel_rfl) (by kernel_rfl)) (by kernel_rfl) ?_)
   intro w hI
   refine oD ?_
   refine qT ?_
   refine cR [0, 1, 2, 3, 4, 5] (by kernel_rfl) ?_
   refine oP (r := [1, 2, 3, 4, 5]) [0] (S' := [(3, pb b1), (4, pb b2), (6, pb b3), (7, pb b4), (12, .int .u32 (wu32 ((wu32 ((wu32 ((wu32 ((gt x11 7) + (bXor .u32 (bXor .u32 y17 y19) y21))) + (bXor .u32 (bAnd .u32 (gt x11 4) (gt x11 5)) (bAnd .u32 (bNot .u32 (gt x11 4)) (gt x11 6))))) + (gt a1 x10))) + (gt y6 x10)))), (17, .agg (cA (Value.int .u32) y6).toArray), (18, iv x10), (85, .pointer (some ⟨b4, 4, none⟩))]) (by kernel_rfl) ?_
   refine oC (Does.yi (Yl.load (d := 86) (T := 89) (v := .int .u32 (gt (st (cpy x11 1 0 7) 0 (wu32 ((wu32 ((wu32 ((wu32 ((wu32 ((gt x11 7) + (bXor .u32 (bXor .u32 y17 y19) y21))) + (bXor .u32 (bAnd .u32 (gt x11 4) (gt x11 5)) (bAnd .u32 (bNot .u32 (gt x11 4)) (gt x11 6))))) + (gt a1 x10))) + (gt y6 x10))) + (wu32 ((bXor .u32 (bXor .u32 y23 y25) y27) + (bXor .u32 (bXor .u32 (bAnd .u32 (gt x11 0) (gt x11 1)) (bAnd .u32 (gt x11 0) (gt x11 2))) (bAnd .u32 (gt x11 1) (gt x11 2)))))))) 4)) (by kernel_rfl) (ldB ty89 (l := cA (Value.int .u32) (st (cpy x11 1 0 7) 0 (wu32 ((wu32 ((wu32 ((wu32 ((wu32 ((gt x11 7) + (bXor .u32 (bXor .u32 y17 y19) y21))) + (bXor .u32 (bAnd .u32 (gt x11 4) (gt x11 5)) (bAnd .u32 (bNot .u32 (gt x11 4)) (gt x11 6))))) + (gt a1 x10))) + (gt y6 x10))) + (wu32 ((bXor .u32 (bXor .u32 y23 y25) y27) + (bXor .u32 (bXor .u32 (bAnd .u32 (gt x11 0) (gt x11 1)) (bAnd .u32 (gt x11 0) (gt x11 2))) (bAnd .u32 (gt x11 1) (gt x11 2))))))))) (o := 4) (v := .int .u32 (gt (st (cpy x11 1 0 7) 0 (wu32 ((wu32 ((wu32 ((wu32 ((wu32 ((gt x11 7) + (bXor .u32 (bXor .u32 y17 y19) y21))) + (bXor .u32 (bAnd .u32 (gt x11 4) (gt x11 5)) (bAnd .u32 (bNot .u32 (gt x11 4)) (gt x11 6))))) + (gt a1 x10))) + (gt y6 x10))) + (wu32 ((bXor .u32 (bXor .u32 y23 y25) y27) + (bXor .u32 (bXor .u32 (bAnd .u32 (gt x11 0) (gt x11 1)) (bAnd .u32 (gt x11 0) (gt x11 2))) (bAnd .u32 (gt x11 1) (gt x11 2)))))))) 4)) (ent_refl _) (arr_getC _ _ 4 ((st_length _ _ _).trans (cpy_length _ _ _ _ _ hl12 (by kernel_rfl) (by kernel_rfl))) (by kernel_rfl)))) hI ?_)
   refine oP (r := [5]) [2, 3, 4] (S' := [(3, pb b1), (4, pb b2), (6, pb b3), (7, pb b4), (17, .agg (cA (Value.int .u32) y6).toArray), (18, iv x10), (88, .int .u32 (wu32 ((gt (st (cpy x11 1 0 7) 0 (wu32 ((wu32 ((wu32 ((wu32 ((wu32 ((gt x11 7) + (bXor .u32 (bXor .u32 y17 y19) y21))) + (bXor .u32 (bAnd .u32 (gt x11 4) (gt x11 5)) (bAnd .u32 (bNot .u32 (gt x11 4)) (gt x11 6))))) + (gt a1 x10))) + (gt y6 x10))) + (wu32 ((bXor .u32 (bXor .u32 y23 y25) y27) + (bXor .u32 (bXor .u32 (bAnd .u32 (gt x11 0) (gt x11 1)) (bAnd .u32 (gt x11 0) (gt x11 2))) (bAnd .u32 (gt x11 1) (gt x11 2)))))))) 4) + (wu32 ((wu32 ((wu32 ((wu32 ((gt x11 7) + (bXor .u32 (bXor .u32 y17 y19) y21))) + (bXor .u32 (bAnd .u32 (gt x11 4) (gt x11 5)) (bAnd .u32 (bNot .u32 (gt x11 4)) (gt x11 6))))) + (gt a1 x10))) + (gt y6 x10)))))), (89, .pointer (some ⟨b4, 4, none⟩))]) (by kernel_rfl) ?_
   refine oC (Does.storeArrC (e := (Value.int .u32)) (xs := st (cpy x11 1 0 7) 0 (wu32 ((wu32 ((wu32 ((wu32 ((wu32 ((gt x11 7) + (bXor .u32 (bXor .u32 y17 y19) y21))) + (bXor .u32 (bAnd .u32 (gt x11 4) (gt x11 5)) (bAnd .u32 (bNot .u32 (gt x11 4)) (gt x11 6))))) + (gt a1 x10))) + (gt y6 x10))) + (wu32 ((bXor .u32 (bXor .u32 y23 y25) y27) + (bXor .u32 (bXor .u32 (bAnd .u32 (gt x11 0) (gt x11 1)) (bAnd .u32 (gt x11 0) (gt x11 2))) (bAnd .u32 (gt x11 1) (gt x11 2)))))))) (u := wu32 ((gt (st (cpy x11 1 0 7) 0 (wu32 ((wu32 ((wu32 ((wu32 ((wu32 ((gt x11 7) + (bXor .u32 (bXor .u32 y17 y19) y21))) + (bXor .u32 (bAnd .u32 (gt x11 4) (gt x11 5)) (bAnd .u32 (bNot .u32 (gt x11 4)) (gt x11 6))))) + (gt a1 x10))) + (gt y6 x10))) + (wu32 ((bXor .u32 (bXor .u32 y23 y25) y27) + (bXor .u32 (bXor .u32 (bAnd .u32 (gt x11 0) (gt x11 1)) (bAnd .u32 (gt x11 0) (gt x11 2))) (bAnd .u32 (gt x11 1) (gt x11 2)))))))) 4) + (wu32 ((wu32 ((wu32 ((wu32 ((gt x11 7) + (bXor .u32 (bXor .u32 y17 y19) y21))) + (bXor .u32 (bAnd .u32 (gt x11 4) (gt x11 5)) (bAnd .u32 (bNot .u32 (gt x11 4)) (gt x11 6))))) + (gt a1 x10))) + (gt y6 x10))))) (T := 89) (b := b4) (n := 4) (by kernel_rfl) ty89 hI (by kernel_rfl) (by kernel_rfl) ((st_length _ _ _).trans (cpy_length _ _ _ _ _ hl12 (by kernel_rfl) (by kernel_rfl))) (by kernel_rfl) ?_)
   intro w hI
   refine oD ?_
   refine Qn.block_normal ?_
   refine qT ?_
   refine cR [0, 1] (by kernel_rfl) ?_
   refine oP (r := []) [0, 1] (S' := [(3, pb b1), (4, pb b2), (6, pb b3), (7, pb b4), (17, .agg (cA (Value.int .u32) y6).toArray), (18, iv (wi64 (x10 + 1)))]) (by kernel_rfl) ?_
   refine oD ?_
   exact Qn.thenJ fun a ha => ⟨k, Nat.lt_succ_self k, wi64 (x10 + 1), st (st (cpy x11 1 0 7) 0 (wu32 ((wu32 ((wu32 ((wu32 ((wu32 ((gt x11 7) + (bXor .u32 (bXor .u32 y17 y19) y21))) + (bXor .u32 (bAnd .u32 (gt x11 4) (gt x11 5)) (bAnd .u32 (bNot .u32 (gt x11 4)) (gt x11 6))))) + (gt a1 x10))) + (gt y6 x10))) + (wu32 ((bXor .u32 (bXor .u32 y23 y25) y27) + (bXor .u32 (bXor .u32 (bAnd .u32 (gt x11 0) (gt x11 1)) (bAnd .u32 (gt x11 0) (gt x11 2))) (bAnd .u32 (gt x11 1) (gt x11 2)))))))) 4 (wu32 ((gt (st (cpy x11 1 0 7) 0 (wu32 ((wu32 ((wu32 ((wu32 ((wu32 ((gt x11 7) + (bXor .u32 (bXor .u32 y17 y19) y21))) + (bXor .u32 (bAnd .u32 (gt x11 4) (gt x11 5)) (bAnd .u32 (bNot .u32 (gt x11 4)) (gt x11 6))))) + (gt a1 x10))) + (gt y6 x10))) + (wu32 ((bXor .u32 (bXor .u32 y23 y25) y27) + (bXor .u32 (bXor .u32 (bAnd .u32 (gt x11 0) (gt x11 1)) (bAnd .u32 (gt x11 0) (gt x11 2))) (bAnd .u32 (gt x11 1) (gt x11 2)))))))) 4) + (wu32 ((wu32 ((wu32 ((wu32 ((gt x11 7) + (bXor .u32 (bXor .u32 y17 y19) y21))) + (bXor .u32 (bAnd .u32 (gt x11 4) (gt x11 5)) (bAnd .u32 (bNot .u32 (gt x11 4)) (gt x11 6))))) + (gt a1 x10))) + (gt y6 x10))))), h1, ha.keep [3, 4, 6, 7, 17, 18] (by kernel_rfl), hI, ((st_length _ _ _).trans ((st_length _ _ _).trans (cpy_length _ _ _ _ _ hl12 (by kernel_rfl) (by kernel_rfl))))⟩
  ·
   rw [if_neg hb13] at h1
   refine CodT.no' (b := decide (x10 < 64)) (by kernel_rfl) (by simpa using hb13) ?_
   refine CodT.exit ?_
   refine Qn.exit_then ?_
   refine Qn.exit_then ?_
   refine Qn.block ?_
   have hI := hI.mono (pick3 _ _ _ _)
   have hI := hI.drop
   have e := someS h1
   subst e
   exact Qn.thenJ fun a ha => ⟨x11, rfl, ha.keep [3, 6, 7] (by kernel_rfl), hI, hl12⟩
 ·
  rintro a w ⟨x8, rfl, ha, hI, hl9⟩
  try dsimp only at h0
  refine Qn.of ?_ ha
  refine qT ?_
  refine cQ ?_
  refine cQ ?_
  refine cR [0] (by kernel_rfl) ?_
  refine oP (r := []) [0] (S' := [(3, pb b1), (6, pb b3), (7, pb b4), (91, iv 0)]) (by kernel_rfl) ?_
  refine oD ?_
  refine qT ?_
  obtain ⟨r1, h1, h0⟩ := bindS h0
  refine CodT.meet1 (fun a w => ∃ (x28 : (List Int)), x28 = r1 ∧ Fr 104 [(3, pb b1), (6, pb b3)] a ∧ Inv w0 Z w (star (pt b3 (.cells (cA (Value.int .u32) (List.replicate 8 (0 : Int))).toArray 90 (0, 0))) (star (pt b1 (.cells (cA (Value.int .u32) x28).toArray 90 (0, 0))) A)) ∧ x28.length = 8) ?_ ?_
  ·
   refine CodT.block ?_
   refine (fun a ha => wp_loopN (fun k a w => ∃ (x30 : Int) (x31 : (List Int)), sha_mix.l1 x8 k x30 x31 = some r1 ∧ Fr 104 [(3, pb b1), (6, pb b3), (7, pb b4), (91, iv x30)] a ∧ Inv w0 Z w (star (pt b4 (.cells (cA (Value.int .u32) x8).toArray 90 (0, 0))) (star (pt b3 (.cells (cA (Value.int .u32) (List.replicate 8 (0 : Int))).toArray 90 (0, 0))) (star (pt b1 (.cells (cA (Value.int .u32) x31).toArray 90 (0, 0))) A))) ∧ x31.length = 8) ?_ FU a w ⟨0, a0, h1, ha.keep [3, 6, 7, 91] (by kernel_rfl), hI, hl_a0⟩)
   clear h1 hI
   rintro k a w ⟨x30, x31, h1, ha, hI, hl32⟩
   rcases k with _ | k
   ·
    cases h1
   simp only [sha_mix.l1] at h1
   refine CodT.of ?_ ha
   refine cQ ?_
   refine cR [0] (by kernel_rfl) ?_
   refine oP (r := []) [0] (S' := [(3, pb b1), (6, pb b3), (7, pb b4), (91, iv x30), (92, .bool (decide (x30 < 8)))]) (by kernel_rfl) ?_
   refine oD ?_
   refine qT ?_
   refine cQ ?_
   by_cases hb33 : (decide (x30 < 8)) = true
   ·
    rw [if_pos hb33] at h1
    refine CodT.yes' (b := decide (x30 < 8)) (by kernel_rfl) hb33 ?_
    refine CodT.skip ?_
    refine qT ?_
    refine cQ ?_
    refine CodT.block ?_
    refine cQ ?_
    refine cR [0, 1] (by kernel_rfl) ?_
    refine oP (r := []) [0, 1] (S' := [(3, pb b1), (6, pb b3), (7, pb b4), (14, iv x30), (91, iv x30)]) (by kernel_rfl) ?_
    refine oD ?_
    refine qT ?_
    refine CodT.drawI (n := 9) [8] (by kernel_rfl) (by kernel_rfl) hI ?_
    intro w hI
    refine GmT.p' 0 94 (iv x30) (by kernel_rfl) (by kernel_rfl) ?_
    refine GmT.p' 3 97 (iv x30) (by kernel_rfl) (by kernel_rfl) ?_
    obtain ⟨hg34, h1⟩ := guardS h1
    refine GmT.r (i := 1) 2 (by kernel_rfl) (by kernel_rfl) (Yl.indexArr (d := 95) (T := 90) (k := .i64) (j := x30) (g := b1) (o := 0) (by kernel_rfl) Go.Proofs.Tryd.underlying90 ty89 hg34.1 hg34.2) hI ?_
    refine GmT.r (i := 2) 2 (by kernel_rfl) (by kernel_rfl) (Yl.load (d := 96) (T := 89) (v := .int .u32 (gt x31 x30)) (by kernel_rfl) (ldB ty89 (l := cA (Value.int .u32) x31) (o := 0 + x30.toNat * 1) (v := .int .u32 (gt x31 x30)) (pick3 _ _ _ _) (arr_get _ _ hg34.1 (by have := And.intro hl32 hg34.2; omega)))) hI ?_
    obtain ⟨hg35, h1⟩ := guardS h1
    refine GmT.r (i := 4) 2 (by kernel_rfl) (by kernel_rfl) (Yl.indexArr (d := 98) (T := 90) (k := .i64) (j := x30) (g := b4) (o := 0) (by kernel_rfl) Go.Proofs.Tryd.underlying90 ty89 hg35.1 hg35.2) hI ?_
    refine GmT.r (i := 5) 2 (by kernel_rfl) (by kernel_rfl) (Yl.load (d := 99) (T := 89) (v := .int .u32 (gt x8 x30)) (by kernel_rfl) (ldB ty89 (l := cA (Value.int .u32) x8) (o := 0 + x30.toNat * 1) (v := .int .u32 (gt x8 x30)) (ent_refl _) (arr_get _ _ hg35.1 (by have := And.intro hl9 hg35.2; omega)))) hI ?_
    refine GmT.p' 6 100 (.int .u32 (wu32 ((gt x31 x30) + (gt x8 x30)))) (by kernel_rfl) (by kernel_rfl) ?_
    obtain ⟨hg36, h1⟩ := guardS h1
    refine GmT.r (i := 7) 2 (by kernel_rfl) (by kernel_rfl) (Yl.indexArr (d := 101) (T := 90) (k := .i64) (j := x30) (g := b1) (o := 0) (by kernel_rfl) Go.Proofs.Tryd.underlying90 ty89 hg36.1 hg36.2) hI ?_
    have hI := hI.mono (pick3 _ _ _ _)
    refine GmT.o (i := 8) (by kernel_rfl) (Does.storeArr (e := (Value.int .u32)) (xs := x31) (u := wu32 ((gt x31 x30) + (gt x8 x30))) (T := 89) (b := b1) (j := x30) (by kernel_rfl) ty89 hI (by kernel_rfl) (by kernel_rfl) hg36.1 (by have := And.intro hl32 hg36.2; omega) ?_)
    intro w hI
    refine ⟨fun h => absurd h (by decide), ?_⟩
    refine GmT.done (by kernel_rfl) ?_
    refine Qn.block_normal ?_
    refine qT ?_
    refine cR [0, 1] (by kernel_rfl) ?_
    refine oP (r := []) [0, 1] (S' := [(3, pb b1), (6, pb b3), (7, pb b4), (91, iv (wi64 (x30 + 1)))]) (by kernel_rfl) ?_
    refine oD ?_
    have hI := hI.mono (pick3 _ _ _ _)
    have hI := hI.mono (pick3 _ _ _ _)
    exact Qn.thenJ fun a ha => ⟨k, Nat.lt_succ_self k, wi64 (x30 + 1), st x31 x30 (wu32 ((gt x31 x30) + (gt x8 x30))), h1, ha.keep [3, 6, 7, 91] (by kernel_rfl), hI, ((st_length _ _ _).trans hl32)⟩
   ·
    rw [if_neg hb33] at h1
    refine CodT.no' (b := decide (x30 < 8)) (by kernel_rfl) (by simpa using hb33) ?_
    refine CodT.exit ?_
    refine Qn.exit_then ?_
    refine Qn.exit_then ?_
    refine Qn.block ?_
    have hI := hI.drop
    have e := someS h1
    subst e
    exact Qn.thenJ fun a ha => ⟨x31, rfl, ha.keep [3, 6] (by kernel_rfl), hI, hl32⟩
  ·
   rintro a w ⟨x28, rfl, ha, hI, hl29⟩
   try dsimp only at h0
   refine Qn.of ?_ ha
   refine qT ?_
   refine cQ ?_
   refine cR [0, 1] (by kernel_rfl) ?_
   refine oC (Does.yi (Yl.load (d := 103) (T := 90) (v := .agg (cA (Value.int .u32) x28).toArray) (by kernel_rfl) (ldBN ty90 (l := cA (Value.int .u32) x28) (o := 0) (cs := cA (Value.int .u32) x28) (pick2 _ _ _) ((cA_length _ _).trans hl29) (whole _ _ ((cA_length _ _).trans hl29)))) hI ?_)
   refine oC (Does.storeAll (T := 90) (b := b3) (n := 8) (xs := (List.replicate 8 (0 : Int))) (ys := x28) (by kernel_rfl) ty90 hI (fun _ => rfl) (by kernel_rfl) hl29 ?_)
   intro w hI
   refine oD ?_
   refine qT ?_
   refine CodT.ret ?_
   have hL37 := (ldBN ty90 (l := cA (Value.int .u32) x28) (o := 0) (cs := cA (Value.int .u32) x28) (ent_refl _) ((cA_length _ _).trans hl29) (whole _ _ ((cA_length _ _).trans hl29))) w hI
   have hI := hI.drop
   have hI := hI.drop
   have e := someS h0
   subst e
   refine qK [6] (S' := [(6, pb b3)]) (by kernel_rfl) ?_
   exact post_ret (v := .agg (cA (Value.int .u32) x28).toArray) (fun a ha => RunRes.run (vs := [.agg (cA (Value.int .u32) x28).toArray]) (.cell (t := 6) (T := 90) (ad := ⟨b3, 0, none⟩) (by kernel_rfl) hL37 .nil) ha (by kernel_rfl)) ⟨rfl, hl29, hI⟩
/-- cenotaph/sha.Of -/
theorem c66 (w0 w : World) (Z : Hp) (A : HP) (hI : Inv w0 Z w A) (hT : Tabs Z) (a0 : ByteArray) (r : (List Int)) (h0 : sha_Of a0 = some r) :
  Calls prog 66 #[.string a0] w (fun e w' => e = .returned (.agg (cA (Value.int .u8) r).toArray) ∧ r.length = 32 ∧ Inv w0 Z w' A) := by
 have e4 := calls_intro (R := (fun e w' => e = .returned (.agg (cA (Value.int .u8) r).toArray) ∧ r.length = 32 ∧ Inv w0 Z w' A)) (w := w) (args := [.string a0]) (fn := Go.Proofs.Tryd.f66) 41 Go.Proofs.Tryd.func66 (by rfl) Go.Proofs.Tryd.ntmps66 (by kernel_rfl)
 refine e4 ?_
 clear e4
 unfold sha_Of at h0
 refine cQ ?_
 refine cR [0] (by kernel_rfl) ?_
 refine oC (Does.allocL (d := 2) (T := 51) (cA (Value.int .u8) (List.replicate 32 (0 : Int))) (by kernel_rfl) ty51 hI (by kernel_rfl) ?_)
 intro b1 w hI
 refine oD ?_
 refine qT ?_
 refine cQ ?_
 refine cR [0, 1, 2, 3, 4, 5, 6, 7] (by kernel_rfl) ?_
 obtain ⟨⟨y3, y5⟩, hc2, h0⟩ := bindS h0
 try dsimp only at h0
 refine oC (Does.call (d := some 9) (n := 77) (vs := []) (by kernel_rfl) en77 (c77 w0 w _ _ hI hT _ hc2) ?_)
 rintro e w ⟨rfl, hl4, hl6, hI⟩
 refine ⟨_, rfl, ?_⟩
 refine oP (r := [4, 5, 6, 7]) [1, 2, 3] (S' := [(0, .string a0), (2, pb b1), (10, .agg (cA (Value.int .u32) y3).toArray), (11, .agg (cA (Value.int .u32) y5).toArray)]) (by kernel_rfl) ?_
 refine oC (Does.allocL (d := 3) (T := 90) (cA (Value.int .u32) (List.replicate 8 (0 : Int))) (by kernel_rfl) ty90 hI (by kernel_rfl) ?_)
 intro b7 w hI
 refine oC (Does.allocL (d := 4) (T := 92) (cA (Value.int .u32) (List.replicate 64 (0 : Int))) (by kernel_rfl) ty92 hI (by kernel_rfl) ?_)
 intro b8 w hI
 have hI := hI.mono (pick2 _ _ _)
 refine oC (Does.storeAll (T := 90) (b := b7) (n := 8) (xs := (List.replicate 8 (0 : Int))) (ys := y3) (by kernel_rfl) ty90 hI (fun _ => rfl) (by kernel_rfl) hl4 ?_)
 intro w hI
 have hI := hI.mono (pick2 _ _ _)
 refine oC (Does.storeAll (T := 92) (b := b8) (n := 64) (xs := (List.replicate 64 (0 : Int))) (ys := y5) (by kernel_rfl) ty92 hI (fun _ => rfl) (by kernel_rfl) hl6 ?_)
 intro w hI
 refine oD ?_
 refine qT ?_
 refine cQ ?_
 refine cQ ?_
 refine cR [0, 1, 2] (by kernel_rfl) ?_
 refine oP (r := [1, 2]) [0] (S' := [(2, pb b1), (3, pb b7), (4, pb b8), (12, .string a0)]) (by kernel_rfl) ?_
 obtain ⟨y10, hc9, h0⟩ := bindS h0
 try dsimp only at h0
 refine oC (Does.call (d := some 13) (n := 78) (vs := [.string a0]) (by kernel_rfl) en78 (c78 w0 w _ _ hI hT a0 _ hc9) ?_)
 rintro e w ⟨rfl, hI⟩
 refine ⟨_, rfl, ?_⟩
 refine oP (r := []) [2] (S' := [(2, pb b1), (3, pb b7), (4, pb b8), (5, .string y10)]) (by kernel_rfl) ?_
 refine oD ?_
 refine qT ?_
 obtain ⟨r1, h1, h0⟩ := bindS h0
 refine CodT.meet1 (fun a w => ∃ (x11 : (List Int)), x11 = r1 ∧ Fr 41 [(2, pb b1), (3, pb b7)] a ∧ Inv w0 Z w (star (pt b7 (.cells (cA (Value.int .u32) x11).toArray 90 (0, 0))) (star (pt b1 (.cells (cA (Value.int .u8) (List.replicate 32 (0 : Int))).toArray 51 (0, 0))) A)) ∧ x11.length = 8) ?_ ?_
 ·
  refine CodT.block ?_
  refine (fun a ha => wp_loopN (fun k a w => ∃ (x13 : ByteArray) (x14 : (List Int)), sha_Of.l0 y5 k x13 x14 = some r1 ∧ Fr 41 [(2, pb b1), (3, pb b7), (4, pb b8), (5, .string x13)] a ∧ Inv w0 Z w (star (pt b8 (.cells (cA (Value.int .u32) y5).toArray 92 (0, 0))) (star (pt b7 (.cells (cA (Value.int .u32) x14).toArray 90 (0, 0))) (star (pt b1 (.cells (cA (Value.int .u8) (List.replicate 32 (0 : Int))).toArray 51 (0, 0))) A))) ∧ x14.length = 8) ?_ FU a w ⟨y10, y3, h1, ha.keep [2, 3, 4, 5] (by kernel_rfl), hI, hl4⟩)
  clear h1 hI
  rintro k a w ⟨x13, x14, h1, ha, hI, hl15⟩
  rcases k with _ | k
  ·
   cases h1
  simp only [sha_Of.l0] at h1
  refine CodT.of ?_ ha
  refine cQ ?_
  refine cQ ?_
  refine cR [0, 1, 2] (by kernel_rfl) ?_
  refine oP (r := []) [0, 1, 2] (S' := [(2, pb b1), (3, pb b7), (4, pb b8), (5, .string x13), (16, .bool (decide ((x13.size : Int) > 0)))]) (by kernel_rfl) ?_
  refine oD ?_
  refine qT ?_
  by_cases hb16 : (decide ((x13.size : Int) > 0)) = true
  ·
   rw [if_pos hb16] at h1
   refine CodT.yes' (b := decide ((x13.size : Int) > 0)) (by kernel_rfl) hb16 ?_
   refine CodT.skip ?_
   refine qT ?_
   refine cQ ?_
   refine CodT.block ?_
   refine CodT.drawI (n := 6) [5] (by kernel_rfl) (by kernel_rfl) hI ?_
   intro w hI
   refine GmT.p' 2 21 (.string x13) (by kernel_rfl) (by kernel_rfl) ?_
   refine GmT.r (i := 0) 2 (by kernel_rfl) (by kernel_rfl) (Yl.load (d := 19) (T := 90) (v := .agg (cA (Value.int .u32) x14).toArray) (by kernel_rfl) (ldBN ty90 (l := cA (Value.int .u32) x14) (o := 0) (cs := cA (Value.int .u32) x14) (pick2 _ _ _) ((cA_length _ _).trans hl15) (whole _ _ ((cA_length _ _).trans hl15)))) hI ?_
   refine GmT.r (i := 1) 2 (by kernel_rfl) (by kernel_rfl) (Yl.load (d := 20) (T := 92) (v := .agg (cA (Value.int .u32) y5).toArray) (by kernel_rfl) (ldBN ty92 (l := cA (Value.int .u32) y5) (o := 0) (cs := cA (Value.int .u32) y5) (ent_refl _) ((cA_length _ _).trans hl6) (whole _ _ ((cA_length _ _).trans hl6)))) hI ?_
   obtain ⟨hg17, h1⟩ := guardS h1
   refine GmT.r (i := 3) 2 (by kernel_rfl) (by kernel_rfl) (Yl.sliceStr01 (d := 22) (T := 9) (s := x13) (hi := 64) (by kernel_rfl) Go.Proofs.Tryd.underlying9 hg17) hI ?_
   obtain ⟨y19, hc18, h1⟩ := bindS h1
   try dsimp only at h1
   refine GmT.o (i := 4) (by kernel_rfl) (Does.call (d := some 23) (n := 79) (vs := [.agg (cA (Value.int .u32) x14).toArray, .agg (cA (Value.int .u32) y5).toArray, .string (sx x13 0 64)]) (by kernel_rfl) en79 (c79 w0 w _ _ hI hT x14 hl15 y5 hl6 (sx x13 0 64) _ hc18) ?_)
   rintro e w ⟨rfl, hl20, hI⟩
   refine ⟨_, rfl, ?_⟩
   refine ⟨fun _ _ => hI, ?_⟩
   have hI := hI.mono (pick2 _ _ _)
   refine GmT.o (i := 5) (by kernel_rfl) (Does.storeAll (T := 90) (b := b7) (n := 8) (xs := x14) (ys := y19) (by kernel_rfl) ty90 hI (fun _ => rfl) hl15 hl20 ?_)
   intro w hI
   refine ⟨fun h => absurd h (by decide), ?_⟩
   refine GmT.done (by kernel_rfl) ?_
   refine Qn.block_normal ?_
   refine qT ?_
   refine cR [0, 1, 2] (by kernel_rfl) ?_
   refine oP (r := [1, 2]) [0] (S' := [(2, pb b1), (3, pb b7), (4, pb b8), (17, .string x13)]) (by kernel_rfl) ?_
   obtain ⟨hg21, h1⟩ := guardS h1
   refine oC (Does.yi (Yl.sliceStr10 (d := 18) (T := 9) (s := x13) (lo := 64) (by kernel_rfl) Go.Proofs.Tryd.underlying9 hg21) hI ?_)
   refine oP (r := []) [2] (S' := [(2, pb b1), (3, pb b7), (4, pb b8), (5, .string (sx x13 64 (x13.size : Int)))]) (by kernel_rfl) ?_
   refine oD ?_
   have hI := hI.mono (pick3 _ _ _ _)
   have hI := hI.mono (pick2 _ _ _)
   have hI := hI.mono (pick3 _ _ _ _)
   exact Qn.thenJ fun a ha => ⟨k, Nat.lt_succ_self k, sx x13 64 (x13.size : Int), y19, h1, ha.keep [2, 3, 4, 5] (by kernel_rfl), hI, hl20⟩
  ·
   rw [if_neg hb16] at h1
   refine CodT.no' (b := decide ((x13.size : Int) > 0)) (by kernel_rfl) (by simpa using hb16) ?_
   refine CodT.exit ?_
   refine Qn.exit_then ?_
   refine Qn.exit_then ?_
   refine Qn.block ?_
   have hI := hI.drop
   have e := someS h1
   subst e
   exact Qn.thenJ fun a ha => ⟨x14, rfl, ha.keep [2, 3] (by kernel_rfl), hI, hl15⟩
 ·
  rintro a w ⟨x11, rfl, ha, hI, hl12⟩
  try dsimp only at h0
  refine Qn.of ?_ ha
  refine qT ?_
  refine cQ ?_
  refine cR [0] (by kernel_rfl) ?_
  refine oC (Does.allocL (d := 6) (T := 51) (cA (Value.int .u8) (List.replicate 32 (0 : Int))) (by kernel_rfl) ty51 hI (by kernel_rfl) ?_)
  intro b22 w hI
  refine oD ?_
  refine qT ?_
  refine cQ ?_
  refine cQ ?_
  refine cR [0] (by kernel_rfl) ?_
  refine oP (r := []) [0] (S' := [(2, pb b1), (3, pb b7), (6, pb b22), (24, iv 0)]) (by kernel_rfl) ?_
  refine oD ?_
  refine qT ?_
  obtain ⟨r1, h1, h0⟩ := bindS h0
  refine CodT.meet1 (fun a w => ∃ (x23 : (List Int)), x23 = r1 ∧ Fr 41 [(2, pb b1), (6, pb b22)] a ∧ Inv w0 Z w (star (pt b22 (.cells (cA (Value.int .u8) x23).toArray 51 (0, 0))) (star (pt b1 (.cells (cA (Value.int .u8) (List.replicate 32 (0 : Int))).toArray 51 (0, 0))) A)) ∧ x23.length = 32) ?_ ?_
  ·
   refine CodT.block ?_
   refine (fun a ha => wp_loopN (fun k a w => ∃ (x25 : Int) (x26 : (List Int)), sha_Of.l1 x11 k x25 x26 = some r1 ∧ Fr 41 [(2, pb b1), (3, pb b7), (6, pb b22), (24, iv x25)] a ∧ Inv w0 Z w (star (pt b22 (.cells (cA (Value.int .u8) x26).toArray 51 (0, 0))) (star (pt b7 (.cells (cA (Value.int .u32) x11).toArray 90 (0, 0))) (star (pt b1 (.cells (cA (Value.int .u8) (List.replicate 32 (0 : Int))).toArray 51 (0, 0))) A))) ∧ x26.length = 32) ?_ FU a w ⟨0, (List.replicate 32 (0 : Int)), h1, ha.keep [2, 3, 6, 24] (by kernel_rfl), hI, (by kernel_rfl)⟩)
   clear h1 hI
   rintro k a w ⟨x25, x26, h1, ha, hI, hl27⟩
   rcases k with _ | k
   ·
    cases h1
   simp only [sha_Of.l1] at h1
   refine CodT.of ?_ ha
   refine cQ ?_
   refine cR [0] (by kernel_rfl) ?_
   refine oP (r := []) [0] (S' := [(2, pb b1), (3, pb b7), (6, pb b22), (24, iv x25), (25, .bool (decide (x25 < 32)))]) (by kernel_rfl) ?_
   refine oD ?_
   refine qT ?_
   refine cQ ?_
   by_cases hb28 : (decide (x25 < 32)) = true
   ·
    rw [if_pos hb28] at h1
    refine CodT.yes' (b := decide (x25 < 32)) (by kernel_rfl) hb28 ?_
    refine CodT.skip ?_
    refine qT ?_
    refine cQ ?_
    refine CodT.block ?_
    refine cQ ?_
    refine cR [0, 1] (by kernel_rfl) ?_
    refine oP (r := []) [0, 1] (S' := [(2, pb b1), (3, pb b7), (6, pb b22), (7, iv x25), (24, iv x25)]) (by kernel_rfl) ?_
    refine oD ?_
    refine qT ?_
    refine cR [0, 1, 2, 3, 4, 5, 6, 7, 8, 9, 10, 11, 12] (by kernel_rfl) ?_
    refine oP (r := [3, 4, 5, 6, 7, 8, 9, 10, 11, 12]) [0, 1, 2] (S' := [(2, pb b1), (3, pb b7), (6, pb b22), (7, iv x25), (24, iv x25), (27, iv x25), (29, iv (wi64 (x25.tdiv 4)))]) (by kernel_rfl) ?_
    obtain ⟨hg29, h1⟩ := guardS h1
    refine oC (Does.yi (Yl.indexArr (d := 30) (T := 90) (k := .i64) (j := wi64 (x25.tdiv 4)) (g := b7) (o := 0) (by kernel_rfl) Go.Proofs.Tryd.underlying90 ty89 hg29.1 hg29.2) hI ?_)
    refine oC (Does.yi (Yl.load (d := 31) (T := 89) (v := .int .u32 (gt x11 (wi64 (x25.tdiv 4)))) (by kernel_rfl) (ldB ty89 (l := cA (Value.int .u32) x11) (o := 0 + (wi64 (x25.tdiv 4)).toNat * 1) (v := .int .u32 (gt x11 (wi64 (x25.tdiv 4)))) (pick2 _ _ _) (arr_get _ _ hg29.1 (by have := And.intro hl12 hg29.2; omega)))) hI ?_)
    refine oP (r := [9, 10, 11, 12]) [5, 6, 7, 8] (S' := [(2, pb b1), (3, pb b7), (6, pb b22), (24, iv x25), (27, iv x25), (31, .int .u32 (gt x11 (wi64 (x25.tdiv 4)))), (35, iv (wi64 (24 - (wi64 (8 * (x25.tmod 4))))))]) (by kernel_rfl) ?_
    obtain ⟨hg30, h1⟩ := guardS h1
    refine oC (Does.yi (Yl.shr (d := 36) (T := 89) (k := .u32) (k' := .i64) (x := gt x11 (wi64 (x25.tdiv 4))) (y := wi64 (24 - (wi64 (8 * (x25.tmod 4))))) (by kernel_rfl) hg30) hI ?_)
    refine oP (r := [11, 12]) [10] (S' := [(2, pb b1), (3, pb b7), (6, pb b22), (24, iv x25), (27, iv x25), (37, .int .u8 (wu8 (bShr .u32 (gt x11 (wi64 (x25.tdiv 4))) (wi64 (24 - (wi64 (8 * (x25.tmod 4))))))))]) (by kernel_rfl) ?_
    obtain ⟨hg31, h1⟩ := guardS h1
    refine oC (Does.yi (Yl.indexArr (d := 38) (T := 51) (k := .i64) (j := x25) (g := b22) (o := 0) (by kernel_rfl) Go.Proofs.Tryd.underlying51 ty5 hg31.1 hg31.2) hI ?_)
    refine oC (Does.storeArr (e := (Value.int .u8)) (xs := x26) (u := wu8 (bShr .u32 (gt x11 (wi64 (x25.tdiv 4))) (wi64 (24 - (wi64 (8 * (x25.tmod 4))))))) (T := 5) (b := b22) (j := x25) (by kernel_rfl) ty5 hI (by kernel_rfl) (by kernel_rfl) hg31.1 (by have := And.intro hl27 hg31.2; omega) ?_)
    intro w hI
    refine oD ?_
    refine Qn.block_normal ?_
    refine qT ?_
    refine cR [0, 1] (by kernel_rfl) ?_
    refine oP (r := []) [0, 1] (S' := [(2, pb b1), (3, pb b7), (6, pb b22), (24, iv (wi64 (x25 + 1)))]) (by kernel_rfl) ?_
    refine oD ?_
    exact Qn.thenJ fun a ha => ⟨k, Nat.lt_succ_self k, wi64 (x25 + 1), st x26 x25 (wu8 (bShr .u32 (gt x11 (wi64 (x25.tdiv 4))) (wi64 (24 - (wi64 (8 * (x25.tmod 4))))))), h1, ha.keep [2, 3, 6, 24] (by kernel_rfl), hI, ((st_length _ _ _).trans hl27)⟩
   ·
    rw [if_neg hb28] at h1
    refine CodT.no' (b := decide (x25 < 32)) (by kernel_rfl) (by simpa using hb28) ?_
    refine CodT.exit ?_
    refine Qn.exit_then ?_
    refine Qn.exit_then ?_
    refine Qn.block ?_
    have hI := hI.mono (pick2 _ _ _)
    have hI := hI.drop
    have e := someS h1
    subst e
    exact Qn.thenJ fun a ha => ⟨x26, rfl, ha.keep [2, 6] (by kernel_rfl), hI, hl27⟩
  ·
   rintro a w ⟨x23, rfl, ha, hI, hl24⟩
   try dsimp only at h0
   refine Qn.of ?_ ha
   refine qT ?_
   refine cQ ?_
   refine cR [0, 1] (by kernel_rfl) ?_
   refine oC (Does.yi (Yl.load (d := 40) (T := 51) (v := .agg (cA (Value.int .u8) x23).toArray) (by kernel_rfl) (ldBN ty51 (l := cA (Value.int .u8) x23) (o := 0) (cs := cA (Value.int .u8) x23) (ent_refl _) ((cA_length _ _).trans hl24) (whole _ _ ((cA_length _ _).trans hl24)))) hI ?_)
   have hI := hI.mono (pick2 _ _ _)
   refine oC (Does.storeAll (T := 51) (b := b1) (n := 32) (xs := (List.replicate 32 (0 : Int))) (ys := x23) (by kernel_rfl) ty51 hI (fun _ => rfl) (by kernel_rfl) hl24 ?_)
   intro w hI
   refine oD ?_
   refine qT ?_
   refine CodT.ret ?_
   have hL32 := (ldBN ty51 (l := cA (Value.int .u8) x23) (o := 0) (cs := cA (Value.int .u8) x23) (ent_refl _) ((cA_length _ _).trans hl24) (whole _ _ ((cA_length _ _).trans hl24))) w hI
   have hI := hI.drop
   have hI := hI.drop
   have e := someS h0
   subst e
   refine qK [2] (S' := [(2, pb b1)]) (by kernel_rfl) ?_
   exact post_ret (v := .agg (cA (Value.int .u8) x23).toArray) (fun a ha => RunRes.run (vs := [.agg (cA (Value.int .u8) x23).toArray]) (.cell (t := 2) (T := 51) (ad := ⟨b1, 0, none⟩) (by kernel_rfl) hL32 .nil) ha (by kernel_rfl)) ⟨rfl, hl24, hI⟩
/-- cenotaph/file.tell -/
theorem c50 (w0 w : World) (Z : Hp) (A : HP) (hI : Inv w0 Z w A) (hT : Tabs Z) (ud : Int) (ue : ByteArray) (ub : ByteArray) (uf : Bool) (ug : Int) (ua : Option Addr) (uh : Nat) (uc : (List ByteArray)) (ui : RdS Z cS 1 ua uh uc) (a1 : ApiOp) (r : ApiEvent) (h0 : file_tell ud ue ub uf ug uc a1 = some r) :
  Calls prog 50 #[.agg ([iv ud, .string ue, .string ub, .bool uf, iv ug, .slice ua uc.length uh] : LV).toArray, .agg (c_ApiOp a1).toArray] w (fun e w' => e = .returned (.agg (c_ApiEvent r).toArray) ∧ r.Sum.length = 32 ∧ Inv w0 Z w' A) := by
 have e4 := calls_intro (R := (fun e w' => e = .returned (.agg (c_ApiEvent r).toArray) ∧ r.Sum.length = 32 ∧ Inv w0 Z w' A)) (w := w) (args := [.agg ([iv ud, .string ue, .string ub, .bool uf, iv ug, .slice ua uc.length uh] : LV).toArray, .agg (c_ApiOp a1).toArray]) (fn := Go.Proofs.Tryd.f50) 44 Go.Proofs.Tryd.func50 (by rfl) Go.Proofs.Tryd.ntmps50 (by kernel_rfl)
 refine e4 ?_
 clear e4
 unfold file_tell at h0
 refine cQ ?_
 refine cR [0, 1, 2] (by kernel_rfl) ?_
 refine oC (Does.boxL (d := 2) (T := 27) (v := .agg ([iv ud, .string ue, .string ub, .bool uf, iv ug, .slice ua uc.length uh] : LV).toArray) ([iv ud, .string ue, .string ub, .bool uf, iv ug, .slice ua uc.length uh] : LV) (by kernel_rfl) hI (by kernel_rfl) ?_)
 intro b1 w hI
 refine oC (Does.boxL (d := 3) (T := 48) (v := .agg (c_ApiOp a1).toArray) (c_ApiOp a1) (by kernel_rfl) hI (by kernel_rfl) ?_)
 intro b2 w hI
 refine oC (Does.allocL (d := 4) (T := 53) (c_ApiEvent (ApiEvent.mk 0 0 (⟨#[]⟩ : ByteArray) 0 0 (List.replicate 32 (0 : Int)))) (by kernel_rfl) ty53 hI (by kernel_rfl) ?_)
 intro b3 w hI
 refine oD ?_
 refine qT ?_
 refine cQ ?_
 refine cR [0, 1, 2, 3, 4, 5, 6] (by kernel_rfl) ?_
 refine oP (r := [1, 2, 3, 4, 5, 6]) [0] (S' := [(2, pb b1), (3, pb b2), (4, pb b3), (6, pb b2)]) (by kernel_rfl) ?_
 refine oC (Does.yi (Yl.load (d := 7) (T := 46) (v := iv a1.Kind) (by kernel_rfl) (ldB ty46 (l := c_ApiOp a1) (o := 0) (v := iv a1.Kind) (pick2 _ _ _) (by kernel_rfl))) hI ?_)
 refine oP (r := [3, 4, 5, 6]) [2] (S' := [(2, pb b1), (3, pb b2), (4, pb b3), (7, iv a1.Kind), (8, pb b1)]) (by kernel_rfl) ?_
 refine oC (Does.yi (Yl.load (d := 9) (T := 3) (v := iv ud) (by kernel_rfl) (ldB ty3 (l := ([iv ud, .string ue, .string ub, .bool uf, iv ug, .slice ua uc.length uh] : LV)) (o := 0) (v := iv ud) (pick3 _ _ _ _) (by kernel_rfl))) hI ?_)
 refine oP (r := [5, 6]) [4] (S' := [(2, pb b1), (3, pb b2), (4, pb b3), (10, .agg (c_ApiEvent (ApiEvent.mk a1.Kind ud (⟨#[]⟩ : ByteArray) 0 0 (List.replicate 32 (0 : Int)))).toArray)]) (by kernel_rfl) ?_
 refine oC (Does.allocL (d := 5) (T := 53) (c_ApiEvent (ApiEvent.mk 0 0 (⟨#[]⟩ : ByteArray) 0 0 (List.replicate 32 (0 : Int)))) (by kernel_rfl) ty53 hI (by kernel_rfl) ?_)
 intro b4 w hI
 refine oC (dS (T := 53) (b := b4) (o := 0) (v := .agg (c_ApiEvent (ApiEvent.mk a1.Kind ud (⟨#[]⟩ : ByteArray) 0 0 (List.replicate 32 (0 : Int)))).toArray) (l := c_ApiEvent (ApiEvent.mk 0 0 (⟨#[]⟩ : ByteArray) 0 0 (List.replicate 32 (0 : Int)))) (vs := c_ApiEvent (ApiEvent.mk a1.Kind ud (⟨#[]⟩ : ByteArray) 0 0 (List.replicate 32 (0 : Int)))) (L' := c_ApiEvent (ApiEvent.mk a1.Kind ud (⟨#[]⟩ : ByteArray) 0 0 (List.replicate 32 (0 : Int)))) (by kernel_rfl) ty53 hI (by kernel_rfl) (len_ApiEvent _ (by kernel_rfl)) (by rw [(len_ApiEvent _ (by kernel_rfl))]; kernel_rfl) (ones_app _ _ (by kernel_rfl) (ones_cA _)) (lset_all _ _ (Eq.trans (len_ApiEvent _ (by kernel_rfl)) (Eq.symm (len_ApiEvent _ (by kernel_rfl))))) ?_)
 intro w hI
 refine oD ?_
 refine qT ?_
 obtain ⟨r1, h1, h0⟩ := bindS h0
 refine CodT.meet (fun a w => ∃ (x5 : ApiEvent), x5 = r1 ∧ Fr 44 [(4, pb b3), (5, pb b4)] a ∧ Inv w0 Z w (star (pt b4 (.cells (c_ApiEvent x5).toArray 53 (0, 0))) (star (pt b3 (.cells (c_ApiEvent (ApiEvent.mk 0 0 (⟨#[]⟩ : ByteArray) 0 0 (List.replicate 32 (0 : Int)))).toArray 53 (0, 0))) A)) ∧ x5.Sum.length = 32) ?_ ?_
 ·
  refine cQ ?_
  refine cR [0, 1] (by kernel_rfl) ?_
  refine oP (r := [1]) [0] (S' := [(2, pb b1), (3, pb b2), (4, pb b3), (5, pb b4), (11, pb b2)]) (by kernel_rfl) ?_
  refine oC (Does.yi (Yl.load (d := 12) (T := 46) (v := iv a1.Kind) (by kernel_rfl) (ldB ty46 (l := c_ApiOp a1) (o := 0) (v := iv a1.Kind) (pick3 _ _ _ _) (by kernel_rfl))) hI ?_)
  refine oD ?_
  refine qT ?_
  refine CodT.block ?_
  refine cQ ?_
  refine cR [0, 1] (by kernel_rfl) ?_
  refine oP (r := []) [0, 1] (S' := [(2, pb b1), (3, pb b2), (4, pb b3), (5, pb b4), (12, iv a1.Kind), (13, .bool (a1.Kind == 1))]) (by kernel_rfl) ?_
  refine oD ?_
  refine qT ?_
  by_cases hb7 : (a1.Kind == 1) = true
  ·
   rw [if_pos hb7] at h1
   refine CodT.yes' (b := a1.Kind == 1) (by kernel_rfl) hb7 ?_
   refine cR [0, 1, 2, 3, 4] (by kernel_rfl) ?_
   refine oP (r := [1, 2, 3, 4]) [0] (S' := [(4, pb b3), (5, pb b4), (15, .pointer (some ⟨b2, 2, none⟩))]) (by kernel_rfl) ?_
   refine oC (Does.yi (Yl.load (d := 16) (T := 9) (v := .string a1.Text) (by kernel_rfl) (ldB ty9 (l := c_ApiOp a1) (o := 2) (v := .string a1.Text) (pick3 _ _ _ _) (by kernel_rfl))) hI ?_)
   refine oP (r := [4]) [2, 3] (S' := [(4, pb b3), (5, pb b4), (17, iv (a1.Text.size : Int)), (18, .pointer (some ⟨b4, 4, none⟩))]) (by kernel_rfl) ?_
   refine oC (dS (T := 3) (b := b4) (o := 4) (v := iv (a1.Text.size : Int)) (l := c_ApiEvent (ApiEvent.mk a1.Kind ud (⟨#[]⟩ : ByteArray) 0 0 (List.replicate 32 (0 : Int)))) (vs := ([iv (a1.Text.size : Int)] : LV)) (L' := c_ApiEvent (ApiEvent.mk a1.Kind ud (⟨#[]⟩ : ByteArray) 0 (a1.Text.size : Int) (List.replicate 32 (0 : Int)))) (by kernel_rfl) ty3 hI (by kernel_rfl) (by kernel_rfl) (by kernel_rfl) (by kernel_rfl) (by kernel_rfl) ?_)
   intro w hI
   refine oD ?_
   refine Qn.block_normal ?_
   have hI := hI.mono (pick3 _ _ _ _)
   have hI := hI.drop
   have hI := hI.mono (pick3 _ _ _ _)
   have hI := hI.drop
   have e := someS h1
   subst e
   exact Qn.thenJ fun a ha => ⟨(ApiEvent.mk a1.Kind ud (⟨#[]⟩ : ByteArray) 0 (a1.Text.size : Int) (List.replicate 32 (0 : Int))), rfl, ha.keep [4, 5] (by kernel_rfl), hI, (by kernel_rfl)⟩
  ·
   rw [if_neg hb7] at h1
   refine CodT.no' (b := a1.Kind == 1) (by kernel_rfl) (by simpa using hb7) ?_
   refine cQ ?_
   refine cR [0, 1] (by kernel_rfl) ?_
   refine oP (r := []) [0, 1] (S' := [(2, pb b1), (3, pb b2), (4, pb b3), (5, pb b4), (12, iv a1.Kind), (19, .bool (a1.Kind == 2))]) (by kernel_rfl) ?_
   refine oD ?_
   refine qT ?_
   by_cases hb8 : (a1.Kind == 2) = true
   ·
    rw [if_pos hb8] at h1
    refine CodT.yes' (b := a1.Kind == 2) (by kernel_rfl) hb8 ?_
    refine CodT.drawC (n := 14) (B := (star (pt b3 (.cells (c_ApiEvent (ApiEvent.mk 0 0 (⟨#[]⟩ : ByteArray) 0 0 (List.replicate 32 (0 : Int)))).toArray 53 (0, 0))) (star (pt b2 (.cells (c_ApiOp a1).toArray 48 (0, 0))) (star (pt b1 (.cells ([iv ud, .string ue, .string ub, .bool uf, iv ug, .slice ua uc.length uh] : LV).toArray 27 (0, 0))) A)))) [] (by kernel_rfl) (by kernel_rfl) hI ?_
    intro w hI
    refine GmT.p' 0 21 (.pointer (some ⟨b2, 3, none⟩)) (by kernel_rfl) (by kernel_rfl) ?_
    refine GmT.p' 2 23 (.pointer (some ⟨b1, 2, none⟩)) (by kernel_rfl) (by kernel_rfl) ?_
    refine GmT.p' 5 26 (.pointer (some ⟨b1, 2, none⟩)) (by kernel_rfl) (by kernel_rfl) ?_
    have hC := hI
    have hC := hC.drop
    refine GmT.r (i := 1) 2 (by kernel_rfl) (by kernel_rfl) (Yl.load (d := 22) (T := 3) (v := iv a1.Time) (by kernel_rfl) (ldB ty3 (l := c_ApiOp a1) (o := 3) (v := iv a1.Time) (pick2 _ _ _) (by kernel_rfl))) hC ?_
    refine GmT.p' 8 29 (.pointer (some ⟨b4, 3, none⟩)) (by kernel_rfl) (by kernel_rfl) ?_
    have hC := hI
    have hC := hC.drop
    refine GmT.r (i := 3) 2 (by kernel_rfl) (by kernel_rfl) (Yl.load (d := 24) (T := 9) (v := .string ub) (by kernel_rfl) (ldB ty9 (l := ([iv ud, .string ue, .string ub, .bool uf, iv ug, .slice ua uc.length uh] : LV)) (o := 2) (v := .string ub) (pick3 _ _ _ _) (by kernel_rfl))) hC ?_
    refine GmT.p' 4 25 (iv (ub.size : Int)) (by kernel_rfl) (by kernel_rfl) ?_
    have hC := hI
    have hC := hC.drop
    refine GmT.r (i := 6) 2 (by kernel_rfl) (by kernel_rfl) (Yl.load (d := 27) (T := 9) (v := .string ub) (by kernel_rfl) (ldB ty9 (l := ([iv ud, .string ue, .string ub, .bool uf, iv ug, .slice ua uc.length uh] : LV)) (o := 2) (v := .string ub) (pick3 _ _ _ _) (by kernel_rfl))) hC ?_
    obtain ⟨y10, hc9, h1⟩ := bindS h1
    try dsimp only at h1
    refine GmT.o (i := 7) (by kernel_rfl) (Does.call (d := some 28) (n := 66) (vs := [.string ub]) (by kernel_rfl) en66 (c66 w0 w _ _ hI hT ub _ hc9) ?_)
    rintro e w ⟨rfl, hl11, hI⟩
    refine ⟨_, rfl, ?_⟩
    have hC := hI
    have hC := hC.drop
    refine ⟨fun _ _ => hC, ?_⟩
    refine GmT.o (i := 9) (by kernel_rfl) (dS (T := 3) (b := b4) (o := 3) (v := iv a1.Time) (l := c_ApiEvent (ApiEvent.mk a1.Kind ud (⟨#[]⟩ : ByteArray) 0 0 (List.replicate 32 (0 : Int)))) (vs := ([iv a1.Time] : LV)) (L' := c_ApiEvent (ApiEvent.mk a1.Kind ud (⟨#[]⟩ : ByteArray) a1.Time 0 (List.replicate 32 (0 : Int)))) (by kernel_rfl) ty3 hI (by kernel_rfl) (by kernel_rfl) (by kernel_rfl) (by kernel_rfl) (by kernel_rfl) ?_)
    intro w hI
    have hC := hI
    have hC := hC.drop
    refine ⟨fun _ _ => hC, ?_⟩
    refine GmT.p' 10 30 (.pointer (some ⟨b4, 4, none⟩)) (by kernel_rfl) (by kernel_rfl) ?_
    refine GmT.o (i := 11) (by kernel_rfl) (dS (T := 3) (b := b4) (o := 4) (v := iv (ub.size : Int)) (l := c_ApiEvent (ApiEvent.mk a1.Kind ud (⟨#[]⟩ : ByteArray) a1.Time 0 (List.replicate 32 (0 : Int)))) (vs := ([iv (ub.size : Int)] : LV)) (L' := c_ApiEvent (ApiEvent.mk a1.Kind ud (⟨#[]⟩ : ByteArray) a1.Time (ub.size : Int) (List.replicate 32 (0 : Int)))) (by kernel_rfl) ty3 hI (by kernel_rfl) (by kernel_rfl) (by kernel_rfl) (by kernel_rfl) (by kernel_rfl) ?_)
    intro w hI
    have hC := hI
    have hC := hC.drop
    refine ⟨fun _ _ => hC, ?_⟩
    refine GmT.p' 12 31 (.pointer (some ⟨b4, 5, none⟩)) (by kernel_rfl) (by kernel_rfl) ?_
    refine GmT.o (i := 13) (by kernel_rfl) (dS (T := 51) (b := b4) (o := 5) (v := .agg (cA (Value.int .u8) y10).toArray) (l := c_ApiEvent (ApiEvent.mk a1.Kind ud (⟨#[]⟩ : ByteArray) a1.Time (ub.size : Int) (List.replicate 32 (0 : Int)))) (vs := cA (Value.int .u8) y10) (L' := c_ApiEvent (ApiEvent.mk a1.Kind ud (⟨#[]⟩ : ByteArray) a1.Time (ub.size : Int) y10)) (by kernel_rfl) ty51 hI (by kernel_rfl) ((cA_length _ _).trans hl11) (by rw [(len_ApiEvent _ (by kernel_rfl))]; kernel_rfl) (ones_cA _) (tail_all _ _ _ _ _ (by kernel_rfl) (Eq.trans hl11 (Eq.symm (by kernel_rfl)))) ?_)
    intro w hI
    have hC := hI
    have hC := hC.drop
    refine ⟨fun _ _ => hC, ?_⟩
    refine GmT.done (by kernel_rfl) ?_
    refine Qn.block_normal ?_
    have hI := hI.mono (pick3 _ _ _ _)
    have hI := hI.drop
    have hI := hI.mono (pick3 _ _ _ _)
    have hI := hI.drop
    have e := someS h1
    subst e
    exact Qn.thenJ fun a ha => ⟨(ApiEvent.mk a1.Kind ud (⟨#[]⟩ : ByteArray) a1.Time (ub.size : Int) y10), rfl, ha.keep [4, 5] (by kernel_rfl), hI, hl11⟩
   ·
    rw [if_neg hb8] at h1
    refine CodT.no' (b := a1.Kind == 2) (by kernel_rfl) (by simpa using hb8) ?_
    refine cQ ?_
    refine cR [0, 1] (by kernel_rfl) ?_
    refine oP (r := []) [0, 1] (S' := [(3, pb b2), (4, pb b3), (5, pb b4), (12, iv a1.Kind), (32, .bool (a1.Kind == 3))]) (by kernel_rfl) ?_
    refine oD ?_
    refine qT ?_
    by_cases hb12 : (a1.Kind == 3) = true
    ·
     rw [if_pos hb12] at h1
     refine CodT.yes' (b := a1.Kind == 3) (by kernel_rfl) hb12 ?_
     refine cR [0, 1, 2, 3] (by kernel_rfl) ?_
     refine oP (r := [1, 2, 3]) [0] (S' := [(4, pb b3), (5, pb b4), (34, .pointer (some ⟨b2, 3, none⟩))]) (by kernel_rfl) ?_
     refine oC (Does.yi (Yl.load (d := 35) (T := 3) (v := iv a1.Time) (by kernel_rfl) (ldB ty3 (l := c_ApiOp a1) (o := 3) (v := iv a1.Time) (pick3 _ _ _ _) (by kernel_rfl))) hI ?_)
     refine oP (r := [3]) [2] (S' := [(4, pb b3), (5, pb b4), (35, iv a1.Time), (36, .pointer (some ⟨b4, 3, none⟩))]) (by kernel_rfl) ?_
     refine oC (dS (T := 3) (b := b4) (o := 3) (v := iv a1.Time) (l := c_ApiEvent (ApiEvent.mk a1.Kind ud (⟨#[]⟩ : ByteArray) 0 0 (List.replicate 32 (0 : Int)))) (vs := ([iv a1.Time] : LV)) (L' := c_ApiEvent (ApiEvent.mk a1.Kind ud (⟨#[]⟩ : ByteArray) a1.Time 0 (List.replicate 32 (0 : Int)))) (by kernel_rfl) ty3 hI (by kernel_rfl) (by kernel_rfl) (by kernel_rfl) (by kernel_rfl) (by kernel_rfl) ?_)
     intro w hI
     refine oD ?_
     refine Qn.block_normal ?_
     have hI := hI.mono (pick3 _ _ _ _)
     have hI := hI.drop
     have hI := hI.mono (pick3 _ _ _ _)
     have hI := hI.drop
     have e := someS h1
     subst e
     exact Qn.thenJ fun a ha => ⟨(ApiEvent.mk a1.Kind ud (⟨#[]⟩ : ByteArray) a1.Time 0 (List.replicate 32 (0 : Int))), rfl, ha.keep [4, 5] (by kernel_rfl), hI, (by kernel_rfl)⟩
    ·
     rw [if_neg hb12] at h1
     refine CodT.no' (b := a1.Kind == 3) (by kernel_rfl) (by simpa using hb12) ?_
     obtain ⟨r2, h2, h1⟩ := bindS h1
     refine CodT.meet (fun a w => ∃ (x13 : Bool), x13 = r2 ∧ Fr 44 [(3, pb b2), (4, pb b3), (5, pb b4), (37, .bool x13)] a ∧ Inv w0 Z w (star (pt b4 (.cells (c_ApiEvent (ApiEvent.mk a1.Kind ud (⟨#[]⟩ : ByteArray) 0 0 (List.replicate 32 (0 : Int)))).toArray 53 (0, 0))) (star (pt b3 (.cells (c_ApiEvent (ApiEvent.mk 0 0 (⟨#[]⟩ : ByteArray) 0 0 (List.replicate 32 (0 : Int)))).toArray 53 (0, 0))) (star (pt b2 (.cells (c_ApiOp a1).toArray 48 (0, 0))) A)))) ?_ ?_
     ·
      refine cQ ?_
      refine cR [0, 1] (by kernel_rfl) ?_
      refine oP (r := []) [0, 1] (S' := [(3, pb b2), (4, pb b3), (5, pb b4), (12, iv a1.Kind), (37, .bool (a1.Kind == 4))]) (by kernel_rfl) ?_
      refine oD ?_
      refine qT ?_
      by_cases hb14 : (a1.Kind == 4) = true
      ·
       rw [if_pos hb14] at h2
       refine CodT.yes' (b := a1.Kind == 4) (by kernel_rfl) hb14 ?_
       refine CodT.skip ?_
       have hI := hI.mono (pick4 _ _ _ _ _)
       have hI := hI.drop
       have e := someS h2
       subst e
       exact Qn.thenJ fun a ha => ⟨a1.Kind == 4, rfl, ha.keep [3, 4, 5, 37] (by kernel_rfl), hI⟩
      ·
       rw [if_neg hb14] at h2
       refine CodT.no' (b := a1.Kind == 4) (by kernel_rfl) (by simpa using hb14) ?_
       refine cR [0, 1] (by kernel_rfl) ?_
       refine oP (r := []) [0, 1] (S' := [(3, pb b2), (4, pb b3), (5, pb b4), (37, .bool (a1.Kind == 5))]) (by kernel_rfl) ?_
       refine oD ?_
       have hI := hI.mono (pick4 _ _ _ _ _)
       have hI := hI.drop
       have e := someS h2
       subst e
       exact Qn.thenJ fun a ha => ⟨a1.Kind == 5, rfl, ha.keep [3, 4, 5, 37] (by kernel_rfl), hI⟩
     ·
      rintro a w ⟨x13, rfl, ha, hI⟩
      try dsimp only at h1
      refine CodT.of ?_ ha
      by_cases hb15 : x13 = true
      ·
       rw [if_pos hb15] at h1
       refine CodT.yes' (b := x13) (by kernel_rfl) hb15 ?_
       refine cR [0, 1, 2, 3] (by kernel_rfl) ?_
       refine oP (r := [1, 2, 3]) [0] (S' := [(4, pb b3), (5, pb b4), (40, .pointer (some ⟨b2, 2, none⟩))]) (by kernel_rfl) ?_
       refine oC (Does.yi (Yl.load (d := 41) (T := 9) (v := .string a1.Text) (by kernel_rfl) (ldB ty9 (l := c_ApiOp a1) (o := 2) (v := .string a1.Text) (pick3 _ _ _ _) (by kernel_rfl))) hI ?_)
       refine oP (r := [3]) [2] (S' := [(4, pb b3), (5, pb b4), (41, .string a1.Text), (42, .pointer (some ⟨b4, 2, none⟩))]) (by kernel_rfl) ?_
       refine oC (dS (T := 9) (b := b4) (o := 2) (v := .string a1.Text) (l := c_ApiEvent (ApiEvent.mk a1.Kind ud (⟨#[]⟩ : ByteArray) 0 0 (List.replicate 32 (0 : Int)))) (vs := ([.string a1.Text] : LV)) (L' := c_ApiEvent (ApiEvent.mk a1.Kind ud a1.Text 0 0 (List.replicate 32 (0 : Int)))) (by kernel_rfl) ty9 hI (by kernel_rfl) (by kernel_rfl) (by kernel_rfl) (by kernel_rfl) (by kernel_rfl) ?_)
       intro w hI
       refine oD ?_
       refine Qn.block_normal ?_
       have hI := hI.mono (pick3 _ _ _ _)
       have hI := hI.drop
       have e := someS h1
       subst e
       exact Qn.thenJ fun a ha => ⟨(ApiEvent.mk a1.Kind ud a1.Text 0 0 (List.replicate 32 (0 : Int))), rfl, ha.keep [4, 5] (by kernel_rfl), hI, (by kernel_rfl)⟩
      ·
       rw [if_neg hb15] at h1
       refine CodT.no' (b := x13) (by kernel_rfl) (by simpa using hb15) ?_
       refine CodT.skip ?_
       refine Qn.block_normal ?_
       have hI := hI.mono (pick3 _ _ _ _)
       have hI := hI.drop
       have e := someS h1
       subst e
       exact Qn.thenJ fun a ha => ⟨(ApiEvent.mk a1.Kind ud (⟨#[]⟩ : ByteArray) 0 0 (List.replicate 32 (0 : Int))), rfl, ha.keep [4, 5] (by kernel_rfl), hI, (by kernel_rfl)⟩
 ·
  rintro a w ⟨x5, rfl, ha, hI, hl6⟩
  try dsimp only at h0
  refine CodT.of ?_ ha
  refine cQ ?_
  refine cR [0, 1] (by kernel_rfl) ?_
  refine oC (Does.yi (Yl.load (d := 43) (T := 53) (v := .agg (c_ApiEvent x5).toArray) (by kernel_rfl) (ldBN ty53 (l := c_ApiEvent x5) (o := 0) (cs := c_ApiEvent x5) (ent_refl _) (len_ApiEvent _ hl6) (whole _ _ (len_ApiEvent _ hl6)))) hI ?_)
  have hI := hI.mono (pick2 _ _ _)
  refine oC (dS (T := 53) (b := b3) (o := 0) (v := .agg (c_ApiEvent x5).toArray) (l := c_ApiEvent (ApiEvent.mk 0 0 (⟨#[]⟩ : ByteArray) 0 0 (List.replicate 32 (0 : Int)))) (vs := c_ApiEvent x5) (L' := c_ApiEvent x5) (by kernel_rfl) ty53 hI (by kernel_rfl) (len_ApiEvent _ hl6) (by rw [(len_ApiEvent _ (by kernel_rfl))]; kernel_rfl) (ones_app _ _ (by kernel_rfl) (ones_cA _)) (lset_all _ _ (Eq.trans (len_ApiEvent _ hl6) (Eq.symm (len_ApiEvent _ (by kernel_rfl))))) ?_)
  intro w hI
  refine oD ?_
  refine qT ?_
  refine CodT.ret ?_
  have hL16 := (ldBN ty53 (l := c_ApiEvent x5) (o := 0) (cs := c_ApiEvent x5) (ent_refl _) (len_ApiEvent _ hl6) (whole _ _ (len_ApiEvent _ hl6))) w hI
  have hI := hI.drop
  have hI := hI.drop
  have e := someS h0
  subst e
  refine qK [4] (S' := [(4, pb b3)]) (by kernel_rfl) ?_
  exact post_ret (v := .agg (c_ApiEvent x5).toArray) (fun a ha => RunRes.run (vs := [.agg (c_ApiEvent x5).toArray]) (.cell (t := 4) (T := 53) (ad := ⟨b3, 0, none⟩) (by kernel_rfl) hL16 .nil) ha (by kernel_rfl)) ⟨rfl, hl6, hI⟩
end Go.Cen
