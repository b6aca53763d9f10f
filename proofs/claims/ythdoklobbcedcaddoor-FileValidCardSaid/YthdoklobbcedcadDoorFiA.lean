/- FILE: what a file comes to. -/
import Derived.Test.YthdoklobbcedcadDoorFRuB
import Derived.Test.YthdoklobbcedcadDoorFShaE
set_option linter.unusedVariables false
set_option linter.unusedSimpArgs false
set_option maxRecDepth 100000
namespace Go.Cen
theorem dgx (s : ByteArray) : ∃ d, d = (sha_Of s).getD [] := ⟨_, rfl⟩
noncomputable def dg (s : ByteArray) : List Int := Classical.choose (dgx s)
theorem dg_def (s : ByteArray) : dg s = (sha_Of s).getD [] := Classical.choose_spec (dgx s)
theorem dg_eq {s : ByteArray} (h : s.size ≤ 1000000000000) : sha_Of s = some (dg s) ∧ ref02_Of s = some (dg s) ∧ (dg s).length = 32 ∧ isB (dg s) := by
  obtain ⟨d, h1, h2, h3, h4⟩ := of_both h
  have : dg s = d := by rw [dg_def, h1]; rfl
  rw [this]
  exact ⟨h1, h2, h3, h4⟩
structure Fi where
  id : Int
  nm : ByteArray
  da : ByteArray
  sd : Bool
  un : Int
  ho : List ByteArray
abbrev e0 : ByteArray := ⟨#[]⟩
abbrev z32 : List Int := List.replicate 32 (0 : Int)
def fi0 : Fi := ⟨0, e0, e0, false, 0, []⟩
def ev0 : ApiEvent := ⟨0, 0, e0, 0, 0, z32⟩
def appF (sd : Bool) (da s : ByteArray) : ByteArray × Int := if sd = true then (da, 5) else if s = e0 then (da, 1) else if 600 < da.size + s.size then (da, 10) else (da ++ s, 0)
theorem seq_e0 (s : ByteArray) : seq s (⟨#[]⟩ : ByteArray) = decide (s = e0) := by
  by_cases h : s = e0
  · rw [h, seq_refl]; simp
  · cases q : seq s (⟨#[]⟩ : ByteArray) with
    | true => exact absurd ((seq_iff s _).1 q) h
    | false => simp [h]
theorem Append_eq (f : Fi) (s : ByteArray) (h1 : f.da.size ≤ 1000000) (h2 : s.size ≤ 1000000) : file_Append f.id f.nm f.da f.sd f.un f.ho s = some (f.id, f.nm, (appF f.sd f.da s).1, f.sd, f.un, f.ho, (appF f.sd f.da s).2) := by
  have hL : LIM = 1099511627776 := rfl
  unfold file_Append appF
  rw [seq_e0, wi64_id (by omega)]
  cases f.sd with
  | true => rfl
  | false =>
    by_cases hs : s = e0
    · simp [hs]
    · by_cases hm : 600 < f.da.size + s.size
      · have : (f.da.size : Int) + (s.size : Int) > 600 := by omega
        simp [hs, hm, this]
      · have : ¬ (f.da.size : Int) + (s.size : Int) > 600 := by omega
        have h3 : f.da.size + s.size ≤ LIM := by omega
        simp [hs, hm, this, h3]
def tellF (f : Fi) (o : ApiOp) : ApiEvent :=
  if o.Kind = 1 then ⟨o.Kind, f.id, e0, 0, o.Text.size, z32⟩ else if o.Kind = 2 then ⟨o.Kind, f.id, e0, o.Time, f.da.size, (sha_Of f.da).getD []⟩ else if o.Kind = 3 then ⟨o.Kind, f.id, e0, o.Time, 0, z32⟩
  else if o.Kind = 4 ∨ o.Kind = 5 then ⟨o.Kind, f.id, o.Text, 0, 0, z32⟩ else ⟨o.Kind, f.id, e0, 0, 0, z32⟩
theorem tell_eq (f : Fi) (o : ApiOp) (h : f.da.size ≤ 1000000) : file_tell f.id f.nm f.da f.sd f.un f.ho o = some (tellF f o) := by
  unfold file_tell tellF
  rw [(dg_eq (by omega : f.da.size ≤ 1000000000000)).1]
  by_cases k1 : o.Kind = 1
  · simp [k1, z32]
  by_cases k2 : o.Kind = 2
  · simp [k2, z32]
  by_cases k3 : o.Kind = 3
  · simp [k3, z32]
  by_cases k4 : o.Kind = 4
  · simp [k4, z32]
  by_cases k5 : o.Kind = 5
  · simp [k5, z32]
  simp [k1, k2, k3, k4, k5, z32]
/-- what a file comes to, and the error -/
def effF (f : Fi) (o : ApiOp) (fl : Int) : Fi × Int :=
  if o.Kind = 1 then ({ f with da := (appF f.sd f.da o.Text).1 }, (appF f.sd f.da o.Text).2)
  else if o.Kind = 4 then ({ f with ho := (holdF f.sd f.ho o.Text).1 }, (holdF f.sd f.ho o.Text).2)
  else if o.Kind = 5 then ({ f with ho := (relF f.ho o.Text).1 }, (relF f.ho o.Text).2)
  else if o.Kind = 2 then (if f.sd = true then (f, 5) else if timeB o.Time = false then (f, 1) else ({ f with sd := true, un := o.Time }, 0))
  else if o.Kind = 3 then ({ f with un := (extF f.sd f.un o.Time).1 }, (extF f.sd f.un o.Time).2)
  else if o.Kind = 6 then (fi0, mayF f.sd f.un f.ho fl)
  else (f, if o.Kind = 0 then 4 else 1)
def doF (f : Fi) (o : ApiOp) (fl : Int) : Fi × ApiEvent × Int := if (effF f o fl).2 = 0 then ((effF f o fl).1, tellF f o, 0) else (f, ev0, (effF f o fl).2)
abbrev tupD (r : Fi × ApiEvent × Int) : Int × ByteArray × ByteArray × Bool × Int × (List ByteArray) × ApiEvent × Int := (r.1.id, r.1.nm, r.1.da, r.1.sd, r.1.un, r.1.ho, r.2.1, r.2.2)
theorem Do_eq (f : Fi) (o : ApiOp) (fl : Int) (hl : smallL f.ho) (hd : f.da.size ≤ 1000000) (ht : o.Text.size ≤ 1000) :
    file_Do f.id f.nm f.da f.sd f.un f.ho o fl = some (tupD (doF f o fl)) := by
  unfold file_Do file_deeds
  rw [Append_eq f o.Text hd (by omega), tell_eq f o hd, Hold_eq _ _ _ _ _ hl ht, Release_eq _ _ _ _ _ hl.1, Seal_eq, Extend_eq, May_eq]
  by_cases k1 : o.Kind = 1
  · simp only [k1, doF, effF, if_true, Option.bind_some, beq_self_eq_true]
    by_cases q : (appF f.sd f.da o.Text).2 = 0
    · simp [q, tupD]
    · simp [q, tupD, ev0, z32]
  by_cases k4 : o.Kind = 4
  · simp only [k4, doF, effF, if_true, Option.bind_some, beq_self_eq_true]
    by_cases q : (holdF f.sd f.ho o.Text).2 = 0
    · simp [q, tupD]
    · simp [q, tupD, ev0, z32]
  by_cases k5 : o.Kind = 5
  · simp only [k5, doF, effF, if_true, Option.bind_some, beq_self_eq_true]
    by_cases q : (relF f.ho o.Text).2 = 0
    · simp [q, tupD]
    · simp [q, tupD, ev0, z32]
  by_cases k2 : o.Kind = 2
  · simp only [k2, doF, effF, if_true, Option.bind_some, beq_self_eq_true]
    cases hs : f.sd with
    | true => simp [hs, tupD, ev0, z32]
    | false =>
      cases hb : timeB o.Time with
      | false => simp [hs, tupD, ev0, z32]
      | true => simp [hs, tupD, ev0, z32]
  by_cases k3 : o.Kind = 3
  · simp only [k3, doF, effF, if_true, Option.bind_some, beq_self_eq_true]
    by_cases q : (extF f.sd f.un o.Time).2 = 0
    · simp [q, tupD]
    · simp [q, tupD, ev0, z32]
  by_cases k6 : o.Kind = 6
  · simp only [k6, doF, effF, if_true, Option.bind_some, beq_self_eq_true]
    by_cases q : mayF f.sd f.un f.ho fl = 0
    · simp [q, tupD, fi0]
    · simp [q, tupD, ev0, z32]
  by_cases k0 : o.Kind = 0
  · simp [k0, doF, effF, tupD, ev0, z32]
  · simp [k0, k1, k2, k3, k4, k5, k6, doF, effF, tupD, ev0, z32]
theorem works08 : law08_works = some true := by decide +kernel
end Go.Cen
