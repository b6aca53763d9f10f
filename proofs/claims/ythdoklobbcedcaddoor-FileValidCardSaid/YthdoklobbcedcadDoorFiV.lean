/- FILE: one that may be stays one that may be. -/
import Derived.Test.YthdoklobbcedcadDoorFiC
set_option linter.unusedVariables false
set_option linter.unusedSimpArgs false
set_option maxRecDepth 100000
namespace Go.Cen
theorem len_cnt : ∀ l, isB l → l.length ≤ 4 * cnt l := by
  refine seg_ind (by simp [cnt_nil]) fun l hl hB ih => ?_
  rw [cnt_cons hl]
  have := dec_w l hl
  simp only [List.length_drop] at ih
  omega
theorem vN_small {s : ByteArray} (h : vN s = true) : s.size ≤ 96 := by
  unfold vN validN at h
  simp only [Bool.and_eq_true, decide_eq_true_eq] at h
  have := len_cnt (byts s) (byts_isB s)
  rw [byts_len] at this
  omega
def ltO : Option ByteArray → ByteArray → Bool
  | none, _ => true
  | some p, x => ltS p x
theorem srt_cons (p : Option ByteArray) (x : ByteArray) (r : List ByteArray) : srtL p (x :: r) = (vN x && (ltO p x && srtL (some x) r)) := by
  cases p with
  | none => simp [srtL, ltO]
  | some q => rfl
theorem srt_nil (p : Option ByteArray) : srtL p [] = true := by cases p <;> rfl
theorem srt_all : ∀ (l : List ByteArray) (p : Option ByteArray), srtL p l = true → ∀ x ∈ l, vN x = true
  | [], p, _, x, hx => by cases hx
  | y :: r, p, h, x, hx => by
    rw [srt_cons] at h
    simp only [Bool.and_eq_true] at h
    rcases List.mem_cons.1 hx with e | e
    · rw [e]; exact h.1
    · exact srt_all r _ h.2.2 x e
theorem srt_weak : ∀ (l : List ByteArray) (p : Option ByteArray) (x : ByteArray), ltO p x = true → srtL (some x) l = true → srtL p l = true
  | [], p, x, _, _ => srt_nil p
  | y :: r, p, x, h1, h2 => by
    rw [srt_cons] at h2 ⊢
    simp only [Bool.and_eq_true] at h2 ⊢
    refine ⟨h2.1, ?_, h2.2.2⟩
    cases p with
    | none => rfl
    | some q => exact ltS_trans h1 h2.2.1
theorem srt_ins {s : ByteArray} (hv : vN s = true) : ∀ (l : List ByteArray) (p : Option ByteArray), srtL p l = true → s ∉ l → ltO p s = true → srtL p (insL s l) = true
  | [], p, _, _, h => by
    unfold insL
    rw [srt_cons, hv, h, srt_nil]; rfl
  | x :: r, p, h1, h2, h3 => by
    rw [srt_cons] at h1
    simp only [Bool.and_eq_true] at h1
    unfold insL
    split
    · rename_i q
      rw [srt_cons, h1.1, h1.2.1, srt_ins hv r (some x) h1.2.2 (fun e => h2 (List.mem_cons_of_mem _ e)) q]; rfl
    · rename_i q
      have hne : x ≠ s := fun e => h2 (by rw [e]; simp)
      have : ltS s x = true := ltS_total hne (by simpa using q)
      rw [srt_cons, srt_cons, hv, h3, h1.1, show ltO (some s) x = true from this, h1.2.2]; rfl
theorem srt_del (s : ByteArray) : ∀ (l : List ByteArray) (p : Option ByteArray), srtL p l = true → srtL p (delL s l) = true
  | [], p, _ => srt_nil p
  | x :: r, p, h => by
    have h' := h
    rw [srt_cons] at h'
    simp only [Bool.and_eq_true] at h'
    unfold delL
    split
    · exact srt_weak r p x h'.2.1 h'.2.2
    · rw [srt_cons, h'.1, h'.2.1, srt_del s r _ h'.2.2]; rfl
theorem delL_len (s : ByteArray) : ∀ l, (delL s l).length ≤ l.length
  | [] => Nat.le_refl _
  | x :: r => by unfold delL; have := delL_len s r; split <;> simp <;> omega
theorem validF_iff (f : Fi) : validF f = true ↔ numB f.id = true ∧ vN f.nm = true ∧ f.da.size ≤ 600 ∧ timeB f.un = true ∧ f.ho.length ≤ 4 ∧ (if f.sd = true then srtL none f.ho = true else f.un = 0 ∧ f.ho = []) := by
  unfold validF
  cases f.sd with
  | true => simp [Bool.and_eq_true, decide_eq_true_eq]
  | false => simp [Bool.and_eq_true, decide_eq_true_eq]
theorem valid_small {f : Fi} (h : validF f = true) : f.nm.size ≤ 1000 ∧ smallL f.ho ∧ f.da.size ≤ 1000000 := by
  rw [validF_iff] at h
  obtain ⟨h1, h2, h3, h4, h5, h6⟩ := h
  have := vN_small h2
  refine ⟨by omega, ⟨by omega, fun x hx => ?_⟩, by omega⟩
  cases hs : f.sd with
  | true =>
    rw [hs] at h6
    have := vN_small (srt_all _ _ h6 x hx); omega
  | false =>
    rw [hs] at h6
    rw [h6.2] at hx; cases hx
theorem eff1 {f : Fi} {o : ApiOp} {fl : Int} (k : o.Kind = 1) : effF f o fl = ({ f with da := (appF f.sd f.da o.Text).1 }, (appF f.sd f.da o.Text).2) := by simp [effF, k]
theorem eff4 {f : Fi} {o : ApiOp} {fl : Int} (k : o.Kind = 4) : effF f o fl = ({ f with ho := (holdF f.sd f.ho o.Text).1 }, (holdF f.sd f.ho o.Text).2) := by simp [effF, k]
theorem eff5 {f : Fi} {o : ApiOp} {fl : Int} (k : o.Kind = 5) : effF f o fl = ({ f with ho := (relF f.ho o.Text).1 }, (relF f.ho o.Text).2) := by simp [effF, k]
theorem eff2 {f : Fi} {o : ApiOp} {fl : Int} (k : o.Kind = 2) : effF f o fl = (if f.sd = true then (f, 5) else if timeB o.Time = false then (f, 1) else ({ f with sd := true, un := o.Time }, 0)) := by simp [effF, k]
theorem eff3 {f : Fi} {o : ApiOp} {fl : Int} (k : o.Kind = 3) : effF f o fl = ({ f with un := (extF f.sd f.un o.Time).1 }, (extF f.sd f.un o.Time).2) := by simp [effF, k]
theorem valid_do {f : Fi} {o : ApiOp} {fl : Int} (h : validF f = true) (h0 : (doF f o fl).2.2 = 0) (h6 : o.Kind ≠ 6) : validF (doF f o fl).1 = true ∧ (doF f o fl).1.id = f.id ∧ (doF f o fl).1.nm = f.nm := by
  have he : (effF f o fl).2 = 0 := by
    unfold doF at h0; split at h0
    · assumption
    · exact h0
  have hd : doF f o fl = ((effF f o fl).1, tellF f o, 0) := by unfold doF; rw [if_pos he]
  rw [hd]
  show validF (effF f o fl).1 = true ∧ (effF f o fl).1.id = f.id ∧ (effF f o fl).1.nm = f.nm
  have h' := (validF_iff f).1 h
  obtain ⟨v1, v2, v3, v4, v5, v6⟩ := h'
  by_cases k1 : o.Kind = 1
  · rw [eff1 k1] at he ⊢
    refine ⟨?_, rfl, rfl⟩
    unfold appF at he ⊢
    cases hs : f.sd with
    | true => simp [hs] at he
    | false =>
      rw [hs] at v6
      by_cases z : o.Text = e0
      · simp [hs, z] at he
      · by_cases q : 600 < f.da.size + o.Text.size
        · simp [hs, z, q] at he
        · rw [validF_iff]
          simp only [hs, z, q, Bool.false_eq_true, if_false]
          exact ⟨v1, v2, by rw [app_size]; omega, v4, v5, v6⟩
  by_cases k4 : o.Kind = 4
  · rw [eff4 k4] at he ⊢
    refine ⟨?_, rfl, rfl⟩
    unfold holdF at he ⊢
    cases hs : f.sd with
    | false => simp [hs] at he
    | true =>
      rw [hs] at v6
      cases hv : vN o.Text with
      | false => simp [hs, hv] at he
      | true =>
        cases hh : hasS f.ho o.Text with
        | true => simp [hs, hv, hh] at he
        | false =>
          by_cases q : 4 ≤ f.ho.length
          · simp [hs, hv, hh, q] at he
          · have hn : o.Text ∉ f.ho := fun q => by rw [hasS_iff.2 q] at hh; cases hh
            rw [validF_iff]
            simp only [hs, q, Bool.true_eq_false, Bool.false_eq_true, if_false, if_true]
            exact ⟨v1, v2, v3, v4, by rw [insL_len]; omega, srt_ins hv _ _ v6 hn rfl⟩
  by_cases k5 : o.Kind = 5
  · rw [eff5 k5] at he ⊢
    refine ⟨?_, rfl, rfl⟩
    unfold relF at he ⊢
    cases hh : hasS f.ho o.Text with
    | false => simp [hh] at he
    | true =>
      cases hs : f.sd with
      | false =>
        rw [hs] at v6
        rw [v6.2] at hh; cases hh
      | true =>
        rw [hs] at v6
        rw [validF_iff]
        simp only [hs, if_true]
        have := delL_len o.Text f.ho
        exact ⟨v1, v2, v3, v4, by omega, srt_del _ _ _ v6⟩
  by_cases k2 : o.Kind = 2
  · rw [eff2 k2] at he ⊢
    cases hs : f.sd with
    | true => simp [hs] at he
    | false =>
      rw [hs] at v6
      cases hb : timeB o.Time with
      | false => simp [hs, hb] at he
      | true =>
        refine ⟨?_, by simp, by simp⟩
        rw [validF_iff]
        simp [hb, v1, v2, v3, v6.2, srt_nil]
  by_cases k3 : o.Kind = 3
  · rw [eff3 k3] at he ⊢
    refine ⟨?_, rfl, rfl⟩
    unfold extF at he ⊢
    cases hs : f.sd with
    | false => simp [hs] at he
    | true =>
      rw [hs] at v6
      cases hb : timeB o.Time with
      | false => simp [hs, hb] at he
      | true =>
        by_cases q : o.Time < f.un
        · simp [hs, hb, q] at he
        · rw [validF_iff]
          simp only [hs, q, Bool.true_eq_false, Bool.false_eq_true, if_false, if_true]
          exact ⟨v1, v2, v3, hb, v5, v6⟩
  unfold effF at he ⊢
  simp only [k1, k2, k3, k4, k5, h6, if_false] at he ⊢
  by_cases k0 : o.Kind = 0
  · simp [k0] at he
  · simp [k0] at he
theorem valid_l0 (l : List ApiOp) (hn : l.length ≤ 20) (f : Fi) (hv : validF f = true) :
    ∃ r, law08_FileValid.l0 l true FU 0 f.id f.nm f.da f.sd f.un f.ho = some r ∧ (r = .inl true ∨ ∃ g : Fi, validF g = true ∧ g.id = f.id ∧ g.nm = f.nm ∧ r = .inr (g.id, g.nm, g.da, g.sd, g.un, g.ho)) := by
  have := loopNI l.length (by omega) (fun k i (s : Fi) => (∃ r, law08_FileValid.l0 l true k i s.id s.nm s.da s.sd s.un s.ho = some r ∧ (r = .inl true ∨ ∃ g : Fi, validF g = true ∧ g.id = f.id ∧ g.nm = f.nm ∧ r = .inr (g.id, g.nm, g.da, g.sd, g.un, g.ho)))) (fun _ _ => True) (fun _ s => validF s = true ∧ s.id = f.id ∧ s.nm = f.nm)
    (fun k s hs => by
      have hd : decide (((l.length : Nat) : Int) < (l.length : Int)) = false := by simp
      simp only [law08_FileValid.l0, hd, Bool.false_eq_true, if_false, eq_iff_iff, iff_true]
      exact ⟨_, rfl, .inr ⟨s, hs.1, hs.2.1, hs.2.2, rfl⟩⟩)
    (fun k i hi hw s hs ih => by
      have hd : decide ((i : Int) < (l.length : Int)) = true := by simp; omega
      have hg : 0 ≤ (i : Int) ∧ (i : Int) < (l.length : Int) := ⟨by omega, by omega⟩
      simp only [law08_FileValid.l0, hd, if_true, hg, and_self, gt_nat l i hi, hw, fewO_eq, Option.bind_some, eq_iff_iff, iff_true]
      cases hfew : fewO s l[i] with
      | false => exact ⟨.inl true, rfl, .inl rfl⟩
      | true =>
        simp only [Bool.not_true, Bool.false_eq_true, if_false, fewO_do hfew 0, tupD, Option.bind_some]
        by_cases q : (doF s l[i] 0).2.2 = 0 ∧ l[i].Kind ≠ 6
        · obtain ⟨w1, w2, w3⟩ := valid_do hs.1 q.1 q.2
          have e1 : (if ((doF s l[i] 0).2.2 == 0) = true then some (l[i].Kind != 6) else some false) = some true := by simp [q.1, q.2]
          have sm := valid_small w1
          simp only [e1, Option.bind_some, if_true, fValid_eq _ sm.1 sm.2.1, w1, Bool.not_true, Bool.false_eq_true, if_false]
          have := ih (doF s l[i] 0).1 ⟨w1, by rw [w2, hs.2.1], by rw [w3, hs.2.2]⟩
          simp only [eq_iff_iff, iff_true] at this
          exact this
        · have e1 : (if ((doF s l[i] 0).2.2 == 0) = true then some (l[i].Kind != 6) else some false) = some false := by
            by_cases q1 : (doF s l[i] 0).2.2 = 0
            · have : l[i].Kind = 6 := by
                by_cases q2 : l[i].Kind = 6
                · exact q2
                · exact absurd ⟨q1, q2⟩ q
              simp [q1, this]
            · simp [q1]
          have sm := valid_small hs.1
          simp only [e1, Option.bind_some, Bool.false_eq_true, if_false, fValid_eq _ sm.1 sm.2.1, hs.1, Bool.not_true]
          have := ih s hs
          simp only [eq_iff_iff, iff_true] at this
          exact this) f ⟨hv, rfl, rfl⟩
  simpa using this
end Go.Cen
