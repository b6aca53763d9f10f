/- FILE: what any operation comes to. -/
import Derived.Test.YthdoklobbcedcacDoorQFiC
set_option linter.unusedVariables false
set_option linter.unusedSimpArgs false
set_option maxRecDepth 100000
namespace Go.Cen
theorem rAppend_eq (f : Fi) (s : ByteArray) (h1 : f.da.size ≤ 1000000) (h2 : s.size ≤ 1000000) : ref08_Append f.id f.nm f.da f.sd f.un f.ho s = some (f.id, f.nm, (appF f.sd f.da s).1, f.sd, f.un, f.ho, (appF f.sd f.da s).2) := Append_eq f s h1 h2
theorem rtime (t : Int) : (if decide (t < 0) = true then some true else some (decide (t > 1099511627776))) = some (!timeB t) := by
  unfold timeB
  by_cases h : t < 0
  · have : ¬ 0 ≤ t := by omega
    simp [h, this]
  · have : 0 ≤ t := by omega
    by_cases h2 : t > 1099511627776
    · have h3 : ¬ t ≤ 1099511627776 := by omega
      simp [h, this, h2, h3]
    · have h3 : t ≤ 1099511627776 := by omega
      simp [h, this, h2, h3]
theorem rSeal_eq (i : Int) (nm da : ByteArray) (sd : Bool) (un : Int) (l : List ByteArray) (t : Int) :
    ref07_Seal i nm da sd un l t = some (if sd = true then (i, nm, da, sd, un, l, 5) else if timeB t = false then (i, nm, da, sd, un, l, 1) else (i, nm, da, true, t, l, 0)) := by
  unfold ref07_Seal
  rw [rtime]
  cases sd with
  | true => rfl
  | false => cases timeB t <;> rfl
theorem rExtend_eq (i : Int) (nm da : ByteArray) (sd : Bool) (un : Int) (l : List ByteArray) (t : Int) :
    ref07_Extend i nm da sd un l t = some (i, nm, da, sd, (extF sd un t).1, l, (extF sd un t).2) := by
  unfold ref07_Extend extF
  rw [rtime]
  cases sd with
  | false => rfl
  | true =>
    cases timeB t with
    | false => rfl
    | true => by_cases h : t < un <;> simp [h]
theorem seq_sym (s t : ByteArray) : seq s t = seq t s := by rw [Bool.eq_iff_iff, seq_iff, seq_iff]; exact eq_comm
theorem place_eq (l : List ByteArray) (s : ByteArray) (h : l.length ≤ 100000) : ref07_place l s = some (fidx (fun x => seq s x) l) := by
  unfold ref07_place
  rw [loop_idx l (by omega) (fun x => seq s x) (fun i => i) (ref07_place.l0 l s) (fun k hd => by simp only [ref07_place.l0, hd]; rfl)
    (fun k i hi hd hg hw => by simp only [ref07_place.l0, hd, if_true, hg, and_self, hw, decide_true, seq_sym])]
  have := fidx_ge (fun x => seq s x) l
  by_cases q : fidx (fun x => seq s x) l < 0
  · rw [if_pos q]; simp only [Option.bind_some]; congr 1; omega
  · rw [if_neg q]; rfl
theorem rhold_l0 {l : List ByteArray} {s : ByteArray} (h : smallL l) (hs : s.size ≤ 1000) : ref07_Hold.l0 l s FU 0 = some (if fidx (fun x => !ltS x s) l < 0 then (l.length : Int) else fidx (fun x => !ltS x s) l) := by
  have hl := h.1
  have := loopN l.length (by omega) (fun k i (_ : Unit) => ref07_Hold.l0 l s k i) (fun i _ => some (if fidx (fun x => !ltS x s) (l.drop i) < 0 then (l.length : Int) else fidx (fun x => !ltS x s) (l.drop i) + (i : Int)))
    (fun k u => by
      have hd : decide (((l.length : Nat) : Int) < (l.length : Int)) = false := by simp
      simp [ref07_Hold.l0, fidx_nil])
    (fun k i hi hw u ih => by
      have hd : decide ((i : Int) < (l.length : Int)) = true := by simp; omega
      have hg : 0 ≤ (i : Int) ∧ (i : Int) < (l.length : Int) := ⟨by omega, by omega⟩
      have hcons : l.drop i = l[i] :: l.drop (i + 1) := List.drop_eq_getElem_cons hi
      have ih' := ih ()
      simp only [ref07_Hold.l0, hd, if_true, hg, and_self, rltS_eq (h.gt hi) hs, Option.bind_some, hw, ih']
      rw [gt_nat l i hi, hcons, fidx_cons]
      have := fidx_ge (fun x => !ltS x s) (l.drop (i + 1))
      cases ltS l[i] s with
      | false => simp
      | true =>
        by_cases q : fidx (fun x => !ltS x s) (l.drop (i + 1)) < 0
        · simp [q]
        · have : ¬ fidx (fun x => !ltS x s) (l.drop (i + 1)) + 1 < 0 := by omega
          simp [q, this]; omega) ()
  rw [this]; simp
theorem sub_take (l : List ByteArray) (x : Int) : sub l 0 x = l.take x.toNat := by simp [sub]
theorem sub_drop (l : List ByteArray) (x : Int) : sub l x (l.length : Int) = l.drop x.toNat := by
  unfold sub; rw [List.take_of_length_le]; rw [List.length_drop]; omega
theorem rHold_eq (i : Int) (nm da : ByteArray) (sd : Bool) (un : Int) {l : List ByteArray} {s : ByteArray} (h : smallL l) (hs : s.size ≤ 1000) :
    ref07_Hold i nm da sd un l s = some (i, nm, da, sd, un, (holdF sd l s).1, (holdF sd l s).2) := by
  have hl := h.1
  have hL : LIM = 1099511627776 := rfl
  unfold ref07_Hold holdF
  rw [rvN_eq hs, place_eq l s (by omega), rhold_l0 h hs]
  cases sd with
  | false => rfl
  | true =>
    cases vN s with
    | false => rfl
    | true =>
      have e : decide (fidx (fun x => seq s x) l ≥ 0) = hasS l s := fidx_any _ l
      simp only [Option.bind_some, e, Bool.not_true, Bool.false_eq_true, if_false]
      cases hasS l s with
      | true => rfl
      | false =>
        by_cases q : 4 ≤ l.length
        · have : decide ((l.length : Int) ≥ 4) = true := by simp; omega
          simp [this, q]
        · have q' : decide ((l.length : Int) ≥ 4) = false := by simp; omega
          have hlt := fidx_lt (fun x => !ltS x s) l
          have hge := fidx_ge (fun x => !ltS x s) l
          have hi := insL_at s l
          simp only [q', q, Bool.false_eq_true, if_false, List.nil_append, sub_take, sub_drop, List.length_nil, Bool.true_eq_false]
          by_cases q2 : fidx (fun x => !ltS x s) l < 0
          · rw [if_pos q2] at hi
            simp only [if_pos q2]
            rw [if_pos ⟨by omega, by omega, by omega⟩, if_pos (by simp; omega), if_pos (by simp; omega), if_pos ⟨by omega, by omega, by omega⟩, if_pos (by simp; omega)]
            rw [← hi]; simp
          · rw [if_neg q2] at hi
            simp only [if_neg q2]
            rw [if_pos ⟨by omega, by omega, by omega⟩, if_pos (by simp; omega), if_pos (by simp; omega), if_pos ⟨by omega, by omega, by omega⟩, if_pos (by simp; omega)]
            rw [← hi]
theorem rRelease_eq (i : Int) (nm da : ByteArray) (sd : Bool) (un : Int) {l : List ByteArray} {s : ByteArray} (h : l.length ≤ 1000) :
    ref07_Release i nm da sd un l s = some (i, nm, da, sd, un, (relF l s).1, (relF l s).2) := by
  have hL : LIM = 1099511627776 := rfl
  unfold ref07_Release relF
  rw [place_eq l s (by omega)]
  have e : decide (fidx (fun x => seq s x) l ≥ 0) = hasS l s := fidx_any _ l
  simp only [Option.bind_some]
  by_cases q : fidx (fun x => seq s x) l < 0
  · have e2 : hasS l s = false := by rw [← e]; simp; omega
    simp [q, e2]
  · have e2 : hasS l s = true := by rw [← e]; simp; omega
    have hlt := fidx_lt (fun x => seq s x) l
    have hd := delL_at s l q
    have e3 : (fidx (fun x => seq s x) l + 1).toNat = (fidx (fun x => seq s x) l).toNat + 1 := by omega
    rw [wi64_id (by omega)]
    simp only [q, decide_false, Bool.false_eq_true, if_false, e2, if_true, List.nil_append, sub_take, sub_drop, List.length_nil, e3, hd]
    rw [if_pos ⟨by omega, by omega, by omega⟩, if_pos (by simp; omega), if_pos ⟨by omega, by omega, by omega⟩, if_pos (by simp; omega)]
theorem rDo_eq (f : Fi) (o : ApiOp) (fl : Int) (hl : smallL f.ho) (hd : f.da.size ≤ 1000000) (ht : o.Text.size ≤ 1000) :
    ref08_Do f.id f.nm f.da f.sd f.un f.ho o fl = some (tupD (doF f o fl)) := by
  unfold ref08_Do
  rw [rAppend_eq f o.Text hd (by omega), rHold_eq _ _ _ _ _ hl ht, rRelease_eq _ _ _ _ _ hl.1, rSeal_eq, rExtend_eq, rMay_eq, (dg_eq (by omega : f.da.size ≤ 1000000000000)).2.1]
  by_cases k0 : o.Kind = 0
  · simp [k0, doF, effF, tupD, ev0, z32]
  by_cases k1 : o.Kind = 1
  · simp only [k1, doF, effF, if_true, Option.bind_some, beq_self_eq_true]
    by_cases q : (appF f.sd f.da o.Text).2 = 0
    · simp [q, tupD, tellF, k1, z32]
    · simp [q, tupD, ev0, z32]
  by_cases k2 : o.Kind = 2
  · simp only [k2, doF, effF, if_true, Option.bind_some, beq_self_eq_true]
    cases hs : f.sd with
    | true => simp [hs, tupD, ev0, z32]
    | false =>
      cases hb : timeB o.Time with
      | false => simp [hs, tupD, ev0, z32]
      | true => simp [hs, tupD, ev0, tellF, k2, dg_def]
  by_cases k3 : o.Kind = 3
  · simp only [k3, doF, effF, if_true, Option.bind_some, beq_self_eq_true]
    by_cases q : (extF f.sd f.un o.Time).2 = 0
    · simp [q, tupD, tellF, k3, z32]
    · simp [q, tupD, ev0, z32]
  by_cases k4 : o.Kind = 4
  · simp only [k4, doF, effF, if_true, Option.bind_some, beq_self_eq_true]
    by_cases q : (holdF f.sd f.ho o.Text).2 = 0
    · simp [q, tupD, tellF, k4, z32]
    · simp [q, tupD, ev0, z32]
  by_cases k5 : o.Kind = 5
  · simp only [k5, doF, effF, if_true, Option.bind_some, beq_self_eq_true]
    by_cases q : (relF f.ho o.Text).2 = 0
    · simp [q, tupD, tellF, k5, z32]
    · simp [q, tupD, ev0, z32]
  by_cases k6 : o.Kind = 6
  · simp only [k6, doF, effF, if_true, Option.bind_some, beq_self_eq_true]
    by_cases q : mayF f.sd f.un f.ho fl = 0
    · simp [q, tupD, fi0, tellF, k6, z32]
    · simp [q, tupD, ev0, z32]
  simp [k0, k1, k2, k3, k4, k5, k6, doF, effF, tupD, ev0, z32]
theorem doF_ho {f : Fi} {o : ApiOp} {fl : Int} (h : fewO f o = true) : (doF f o fl).1.ho.length ≤ 1000 := by
  simp only [fewO, Bool.and_eq_true, decide_eq_true_eq] at h
  have hf := few_all h.1
  have hh : (holdF f.sd f.ho o.Text).1.length ≤ 1000 := by
    unfold holdF
    repeat' split
    all_goals first | (rw [insL_len]; omega) | (show f.ho.length ≤ _; omega)
  have dl : ∀ (s : ByteArray) (l : List ByteArray), (delL s l).length ≤ l.length := by
    intro s l
    induction l with
    | nil => simp [delL]
    | cons x r ih => unfold delL; split <;> simp <;> omega
  have hr : (relF f.ho o.Text).1.length ≤ 1000 := by
    unfold relF
    split
    · have := dl o.Text f.ho; show (delL o.Text f.ho).length ≤ _; omega
    · show f.ho.length ≤ _; omega
  have h0 : f.ho.length ≤ 1000 := by omega
  unfold doF
  split
  · unfold effF
    repeat' split
    all_goals first | exact h0 | exact hh | exact hr | (simp [fi0])
  · exact h0
theorem eqEv_refl (e : ApiEvent) : eq_ApiEvent e e = true := by simp [eq_ApiEvent, seq_refl, (eqA_iff _ _).2 rfl]
theorem law08_FileDoes_eq (i : Int) (nm da : ByteArray) (sd : Bool) (un : Int) (l : List ByteArray) (o : ApiOp) (fl : Int) : law08_FileDoes i nm da sd un l o fl = some true := by
  have F := fewO_eq ⟨i, nm, da, sd, un, l⟩ o
  simp only at F
  unfold law08_FileDoes
  simp only [works08, Option.bind_some, Bool.not_true, Bool.false_eq_true, if_false, if_true, F]
  cases hf : fewO ⟨i, nm, da, sd, un, l⟩ o with
  | false => rfl
  | true =>
    have hho := doF_ho (fl := fl) hf
    have hf' := hf
    simp only [fewO, Bool.and_eq_true, decide_eq_true_eq] at hf'
    have hfa := few_all hf'.1
    have hda : da.size ≤ 1000000 := by omega
    have D1 := Do_eq ⟨i, nm, da, sd, un, l⟩ o fl (fewB_small hf'.1) hda (by omega)
    have D2 := rDo_eq ⟨i, nm, da, sd, un, l⟩ o fl (fewB_small hf'.1) hda (by omega)
    have A1 := Append_eq ⟨i, nm, da, sd, un, l⟩ o.Text hda (by omega)
    have A2 := rAppend_eq ⟨i, nm, da, sd, un, l⟩ o.Text hda (by omega)
    simp only at D1 D2 A1 A2
    have S1 := rSame_eq (doF ⟨i, nm, da, sd, un, l⟩ o fl).1 (doF ⟨i, nm, da, sd, un, l⟩ o fl).1 (by omega)
    have S2 := rSame_eq ⟨i, nm, (appF sd da o.Text).1, sd, un, l⟩ ⟨i, nm, (appF sd da o.Text).1, sd, un, l⟩ (by show l.length ≤ _; have := hfa.1.1; omega)
    rw [sameF_self] at S1 S2
    simp only at S2
    simp only [Bool.not_true, Bool.false_eq_true, if_false, if_true, D1, D2, A1, A2, tupD, Option.bind_some, S1, S2, eqEv_refl, beq_self_eq_true]
end Go.Cen
