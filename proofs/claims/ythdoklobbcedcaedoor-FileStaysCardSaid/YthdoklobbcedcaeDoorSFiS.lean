/- FILE: one that may be stays one that may be, and each event that tells it may be. -/
import Derived.Test.YthdoklobbcedcaeDoorSFiW
import Derived.Test.YthdoklobbcedcaeDoorSEvB
set_option linter.unusedVariables false
set_option linter.unusedSimpArgs false
set_option maxRecDepth 100000
namespace Go.Cen
theorem fvalid_l0b (l : List ByteArray) (hl : l.length ≤ 1000) (hs : ∀ x ∈ l, x.size ≤ 9223372036854775807) : file_Valid.l0 l FU 0 = some (if srtL none l = true then .inr () else .inl false) := by
  have := loopNI l.length (by omega) (fun k i (_ : Unit) => file_Valid.l0 l k i) (fun i _ => some (if srtL (prevO l i) (l.drop i) = true then .inr () else .inl false)) (fun i _ => i = 0 ∨ vN (gt l ((i - 1 : Nat) : Int)) = true)
    (fun k s _ => by
      have hd : decide (((l.length : Nat) : Int) < (l.length : Int)) = false := by simp
      have : srtL (prevO l l.length) [] = true := by cases prevO l l.length <;> rfl
      simp [file_Valid.l0, this])
    (fun k i hi hw s hI ih => by
      have hd : decide ((i : Int) < (l.length : Int)) = true := by simp; omega
      have hg : 0 ≤ (i : Int) ∧ (i : Int) < (l.length : Int) := ⟨by omega, by omega⟩
      rw [srt_step hi]
      simp only [file_Valid.l0, hd, if_true, hg, and_self, gt_nat l i hi, vN_big (hs _ (List.getElem_mem hi)), Option.bind_some, hw]
      cases hv : vN l[i] with
      | false => rfl
      | true =>
        have ih' := ih () (.inr (by rw [show i + 1 - 1 = i by omega, gt_nat l i hi]; exact hv))
        by_cases h0 : i = 0
        · subst h0; simpa using ih'
        · have hw2 : wi64 ((i : Int) - 1) = ((i - 1 : Nat) : Int) := by rw [wi64_id (by omega)]; omega
          have hg2 : 0 ≤ ((i - 1 : Nat) : Int) ∧ ((i - 1 : Nat) : Int) < (l.length : Int) := ⟨by omega, by omega⟩
          have hp : decide ((i : Int) > 0) = true := by simp; omega
          have hb := vN_small hv
          have hb2 : (gt l ((i - 1 : Nat) : Int)).size ≤ 96 := vN_small (hI.resolve_left h0)
          simp only [Bool.not_true, Bool.false_eq_true, if_false, hp, if_true, hw2, hg2, and_self, ltS_eq (show (gt l ((i - 1 : Nat) : Int)).size ≤ 1000 by omega) (show l[i].size ≤ 1000 by omega), Option.bind_some, h0, Bool.true_and, ih']
          cases ltS (gt l ((i - 1 : Nat) : Int)) l[i] with
          | false => rfl
          | true => simp) () (.inl rfl)
  rw [this]; simp [prevO]
theorem fValid_big (f : Fi) (h1 : f.nm.size ≤ 9223372036854775807) (h2 : ∀ x ∈ f.ho, x.size ≤ 9223372036854775807) : file_Valid f.id f.nm f.da f.sd f.un f.ho = some (validF f) := by
  unfold file_Valid validF
  rw [numbered_eq, vN_big h1]
  cases numB f.id with
  | false => rfl
  | true =>
    cases vN f.nm with
    | false => rfl
    | true =>
      by_cases a1 : f.da.size ≤ 600
      · have a1' : ¬ (f.da.size : Int) > 600 := by omega
        unfold timeB
        by_cases a2 : 0 ≤ f.un
        · have a2' : ¬ f.un < 0 := by omega
          by_cases a3 : f.un ≤ 1099511627776
          · have a3' : ¬ f.un > 1099511627776 := by omega
            by_cases a4 : f.ho.length ≤ 4
            · have a4' : ¬ (f.ho.length : Int) > 4 := by omega
              simp only [Bool.not_true, Bool.false_eq_true, if_false, Option.bind_some, a1, a1', a2, a2', a3, a3', a4, a4', decide_true, decide_false, Bool.true_and, fvalid_l0b _ (show f.ho.length ≤ 1000 by omega) h2]
              cases f.sd with
              | false =>
                simp only [Bool.not_false, if_true, len0, Bool.false_eq_true, if_false]
                cases f.un == 0 <;> rfl
              | true =>
                simp only [Bool.not_true, if_true, Bool.false_eq_true, if_false]
                cases srtL none f.ho <;> rfl
            · have a4' : (f.ho.length : Int) > 4 := by omega
              simp [a1, a1', a2, a2', a3, a3', a4, a4']
          · have a3' : f.un > 1099511627776 := by omega
            simp [a1, a1', a2, a2', a3, a3']
        · have a2' : f.un < 0 := by omega
          simp [a1, a1', a2, a2']
      · have a1' : (f.da.size : Int) > 600 := by omega
        simp [a1, a1']
theorem tell_ok {f : Fi} {o : ApiOp} (hd : f.da.size ≤ 1000000) (ht : o.Text.size ≤ 1000) : okE (tellF f o) := by
  have hz : z32.length = 32 ∧ isB z32 := ⟨by simp [z32], fun x hx => by rw [List.eq_of_mem_replicate hx]; omega⟩
  have h0 : e0.size ≤ 100000 := by decide
  have hg := dg_eq (show f.da.size ≤ 1000000000000 by omega)
  rw [dg_def] at hg
  by_cases k1 : o.Kind = 1
  · rw [show tellF f o = ⟨o.Kind, f.id, e0, 0, o.Text.size, z32⟩ from by simp [tellF, k1]]; exact ⟨h0, hz⟩
  by_cases k2 : o.Kind = 2
  · rw [show tellF f o = ⟨o.Kind, f.id, e0, o.Time, f.da.size, (sha_Of f.da).getD []⟩ from by simp [tellF, k2]]
    have hg2 := hg.2.2
    clear hg
    generalize (sha_Of f.da).getD [] = d at hg2 ⊢
    exact ⟨h0, hg2⟩
  by_cases k3 : o.Kind = 3
  · rw [show tellF f o = ⟨o.Kind, f.id, e0, o.Time, 0, z32⟩ from by simp [tellF, k3]]; exact ⟨h0, hz⟩
  by_cases k4 : o.Kind = 4 ∨ o.Kind = 5
  · rw [show tellF f o = ⟨o.Kind, f.id, o.Text, 0, 0, z32⟩ from by unfold tellF; rw [if_neg k1, if_neg k2, if_neg k3, if_pos k4]]; exact ⟨Nat.le_trans ht (by decide), hz⟩
  · rw [show tellF f o = ⟨o.Kind, f.id, e0, 0, 0, z32⟩ from by unfold tellF; rw [if_neg k1, if_neg k2, if_neg k3, if_neg k4]]; exact ⟨h0, hz⟩
theorem tell_valid {f : Fi} {o : ApiOp} {fl : Int} (h : validF f = true) (h0 : (doF f o fl).2.2 = 0) : validE (tellF f o) = true ∧ (tellF f o).ID = f.id ∧ (tellF f o).Kind = o.Kind := by
  have he : (effF f o fl).2 = 0 := by
    unfold doF at h0; split at h0
    · assumption
    · exact h0
  obtain ⟨v1, v2, v3, v4, v5, v6⟩ := (validF_iff f).1 h
  have n0 : noS e0 = true := (noS_eq _).2 rfl
  have nz : noD z32 = true := (noD_eq _).2 rfl
  have iok : idOk f.id = true := v1
  by_cases k1 : o.Kind = 1
  · rw [eff1 k1] at he
    unfold appF at he
    have e : tellF f o = ⟨o.Kind, f.id, e0, 0, o.Text.size, z32⟩ := by simp [tellF, k1]
    rw [e]
    refine ⟨?_, rfl, rfl⟩
    cases hs : f.sd with
    | true => simp [hs] at he
    | false =>
      by_cases z : o.Text = e0
      · simp [hs, z] at he
      · by_cases q : 600 < f.da.size + o.Text.size
        · simp [hs, z, q] at he
        · have pa : 0 < o.Text.size := by
            rcases Nat.eq_zero_or_pos o.Text.size with q | q
            · exact absurd (byts_inj (by rw [byts_nil]; exact List.length_eq_zero_iff.1 (by rw [byts_len]; exact q)) : o.Text = e0) z
            · exact q
          have lo : lenOk 1 (o.Text.size : Int) = true := by unfold lenOk; simp; omega
          unfold validE
          rw [if_neg (by show ¬ (o.Kind = 0 ∨ o.Kind = 4 ∨ o.Kind = 5); omega), if_pos k1]
          simp only [iok, n0, nz, lo]; rfl
  by_cases k4 : o.Kind = 4
  · rw [eff4 k4] at he
    unfold holdF at he
    have e : tellF f o = ⟨o.Kind, f.id, o.Text, 0, 0, z32⟩ := by simp [tellF, k4]
    rw [e]
    refine ⟨?_, rfl, rfl⟩
    cases hs : f.sd with
    | false => simp [hs] at he
    | true =>
      cases hv : vN o.Text with
      | false => simp [hs, hv] at he
      | true =>
        unfold validE
        rw [if_pos (.inr (.inl k4))]
        have : nmOk o.Text = true := hv
        simp only [iok, nz, this]; rfl
  by_cases k5 : o.Kind = 5
  · rw [eff5 k5] at he
    unfold relF at he
    have e : tellF f o = ⟨o.Kind, f.id, o.Text, 0, 0, z32⟩ := by simp [tellF, k5]
    rw [e]
    refine ⟨?_, rfl, rfl⟩
    cases hh : hasS f.ho o.Text with
    | false => simp [hh] at he
    | true =>
      have hm := hasS_iff.1 hh
      have hv : vN o.Text = true := by
        cases hs : f.sd with
        | true => rw [hs] at v6; exact srt_all _ _ v6 _ hm
        | false => rw [hs] at v6; rw [v6.2] at hm; cases hm
      unfold validE
      rw [if_pos (.inr (.inr k5))]
      have : nmOk o.Text = true := hv
      simp only [iok, nz, this]; rfl
  by_cases k2 : o.Kind = 2
  · rw [eff2 k2] at he
    have e : tellF f o = ⟨o.Kind, f.id, e0, o.Time, f.da.size, (sha_Of f.da).getD []⟩ := by simp [tellF, k2]
    rw [e]
    refine ⟨?_, rfl, rfl⟩
    cases hs : f.sd with
    | true => simp [hs] at he
    | false =>
      cases hb : timeB o.Time with
      | false => simp [hs, hb] at he
      | true =>
        have lo : lenOk 0 (f.da.size : Int) = true := by unfold lenOk; simp; omega
        have to : timeOk o.Time = true := hb
        unfold validE
        rw [if_neg (by show ¬ (o.Kind = 0 ∨ o.Kind = 4 ∨ o.Kind = 5); omega), if_neg k1, if_pos k2]
        simp only [iok, n0, lo, to]; rfl
  by_cases k3 : o.Kind = 3
  · rw [eff3 k3] at he
    unfold extF at he
    have e : tellF f o = ⟨o.Kind, f.id, e0, o.Time, 0, z32⟩ := by simp [tellF, k3]
    rw [e]
    refine ⟨?_, rfl, rfl⟩
    cases hs : f.sd with
    | false => simp [hs] at he
    | true =>
      cases hb : timeB o.Time with
      | false => simp [hs, hb] at he
      | true =>
        have to : timeOk o.Time = true := hb
        unfold validE
        rw [if_neg (by show ¬ (o.Kind = 0 ∨ o.Kind = 4 ∨ o.Kind = 5); omega), if_neg k1, if_neg k2, if_pos k3]
        simp only [iok, n0, nz, to]; rfl
  by_cases k6 : o.Kind = 6
  · have e : tellF f o = ⟨o.Kind, f.id, e0, 0, 0, z32⟩ := by simp [tellF, k6]
    rw [e]
    refine ⟨?_, rfl, rfl⟩
    unfold validE
    rw [if_neg (by show ¬ (o.Kind = 0 ∨ o.Kind = 4 ∨ o.Kind = 5); omega), if_neg k1, if_neg k2, if_neg k3, if_pos k6]
    simp only [iok, n0, nz]; rfl
  unfold effF at he
  simp only [k1, k2, k3, k4, k5, k6, if_false] at he
  by_cases k0 : o.Kind = 0
  · simp [k0] at he
  · simp [k0] at he
theorem stays_l0 (l : List ApiOp) (hn : l.length ≤ 20) (fl : Int) (f : Fi) (hv : validF f = true) :
    ∃ r, law08_FileStays.l0 l true fl FU 0 f.id f.nm f.da f.sd f.un f.ho = some r ∧ (r = .inl true ∨ r = .inr ()) := by
  have := loopNI l.length (by omega) (fun k i (s : Fi) => (∃ r, law08_FileStays.l0 l true fl k i s.id s.nm s.da s.sd s.un s.ho = some r ∧ (r = .inl true ∨ r = .inr ()))) (fun _ _ => True) (fun _ s => validF s = true)
    (fun k s hs => by
      have hd : decide (((l.length : Nat) : Int) < (l.length : Int)) = false := by simp
      simp [law08_FileStays.l0])
    (fun k i hi hw s hs ih => by
      have hd : decide ((i : Int) < (l.length : Int)) = true := by simp; omega
      have hg : 0 ≤ (i : Int) ∧ (i : Int) < (l.length : Int) := ⟨by omega, by omega⟩
      simp only [law08_FileStays.l0, hd, if_true, hg, and_self, gt_nat l i hi, hw, fewO_eq, Option.bind_some, eq_iff_iff, iff_true, decide_true]
      cases hfew : fewO s l[i] with
      | false => exact ⟨.inl true, rfl, .inl rfl⟩
      | true =>
        have sm := valid_small hs
        simp only [Bool.not_true, Bool.false_eq_true, if_false, fewO_do hfew fl, tupD, Option.bind_some]
        by_cases q : (doF s l[i] fl).2.2 = 0
        · have hf' := hfew
          simp only [fewO, Bool.and_eq_true, decide_eq_true_eq] at hf'
          have hev : (doF s l[i] fl).2.1 = tellF s l[i] := by
            have he : (effF s l[i] fl).2 = 0 := by
              unfold doF at q; split at q
              · assumption
              · exact q
            unfold doF; rw [if_pos he]
          obtain ⟨t1, t2, t3⟩ := tell_valid (fl := fl) hs q
          have hV := event_Valid_eq (tell_ok (f := s) (o := l[i]) sm.2.2 (by omega))
          rw [t1] at hV
          have q' : ((doF s l[i] fl).2.2 != 0) = false := by simp [q]
          simp only [q', Bool.false_eq_true, if_false, hev, hV, Option.bind_some, Bool.not_true, t2, t3, bne_self_eq_false]
          by_cases k6 : l[i].Kind = 6
          · have hd6 : (doF s l[i] fl).1 = fi0 := by
              have he : (effF s l[i] fl).2 = 0 := by
                unfold doF at q; split at q
                · assumption
                · exact q
              unfold doF; rw [if_pos he]; simp [effF, k6]
            have S := fSame_eq fi0 fi0 (by simp [fi0])
            rw [sameF_self] at S
            simp only [fi0] at S
            simp only [hd6, fi0, k6, beq_self_eq_true, if_true, S, Option.bind_some]
            exact ⟨.inl true, rfl, .inl rfl⟩
          · have k6' : (l[i].Kind == 6) = false := by simp [k6]
            obtain ⟨w1, w2, w3⟩ := valid_do hs q k6
            have sm2 := valid_small w1
            have V := fValid_eq _ sm2.1 sm2.2.1
            rw [w1, w2, w3] at V
            simp only [k6', Bool.false_eq_true, if_false, V, Option.bind_some, Bool.not_true, w2, w3, bne_self_eq_false, seq_refl]
            have := ih (doF s l[i] fl).1 w1
            simp only [eq_iff_iff, iff_true, w2, w3] at this
            exact this
        · rw [do_err q]
          have q' : ((doF s l[i] fl).2.2 != 0) = true := by simpa using q
          have S := fSame_eq s s (by have := sm.2.1.1; omega)
          rw [sameF_self] at S
          have ee : eq_ApiEvent ev0 ev0 = true := by simp [eq_ApiEvent, seq_refl, (eqA_iff _ _).2 rfl]
          simp only [ev0] at ee
          simp only [q', if_true, S, Option.bind_some, Bool.not_true, Bool.false_eq_true, if_false, ev0, ee]
          have := ih s hs
          simp only [eq_iff_iff, iff_true] at this
          exact this) f hv
  simpa using this
theorem law08_FileStays_eq (i : Int) (nm da : ByteArray) (sd : Bool) (un : Int) (ho : List ByteArray) (l : List ApiOp) (fl : Int) (h1 : nm.size ≤ 9223372036854775807) (h2 : ∀ x ∈ ho, x.size ≤ 9223372036854775807) :
    law08_FileStays i nm da sd un ho l fl = some true := by
  unfold law08_FileStays
  simp only [works08, Option.bind_some, Bool.not_true, Bool.false_eq_true, if_false]
  by_cases hl : (l.length : Int) > 20
  · simp [hl]
  · have V := fValid_big ⟨i, nm, da, sd, un, ho⟩ h1 h2
    simp only at V
    simp only [hl, decide_false, Bool.false_eq_true, if_false, V, Option.bind_some]
    cases hv : validF ⟨i, nm, da, sd, un, ho⟩ with
    | false => rfl
    | true =>
      obtain ⟨r, e1, e2⟩ := stays_l0 l (by omega) fl _ hv
      simp only at e1
      simp only [Bool.not_true, Bool.false_eq_true, if_false, e1, Option.bind_some]
      rcases e2 with rfl | rfl <;> rfl
end Go.Cen
