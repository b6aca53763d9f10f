/- FILE: which may be; what is sealed stays. -/
import Derived.Test.YthdoklobbcedcadDoorFiB
set_option linter.unusedVariables false
set_option linter.unusedSimpArgs false
set_option maxRecDepth 100000
namespace Go.Cen
def srtL : Option ByteArray → List ByteArray → Bool
  | _, [] => true
  | none, x :: r => vN x && srtL (some x) r
  | some p, x :: r => vN x && (ltS p x && srtL (some x) r)
def prevO (l : List ByteArray) (i : Nat) : Option ByteArray := if i = 0 then none else some (gt l ((i - 1 : Nat) : Int))
theorem prevO_succ {l : List ByteArray} {i : Nat} (hi : i < l.length) : prevO l (i + 1) = some l[i] := by
  unfold prevO; rw [if_neg (by omega), show i + 1 - 1 = i by omega, gt_nat l i hi]
theorem srt_step {l : List ByteArray} {i : Nat} (hi : i < l.length) : srtL (prevO l i) (l.drop i) = (vN l[i] && ((if i = 0 then true else ltS (gt l ((i - 1 : Nat) : Int)) l[i]) && srtL (prevO l (i + 1)) (l.drop (i + 1)))) := by
  have hcons : l.drop i = l[i] :: l.drop (i + 1) := List.drop_eq_getElem_cons hi
  rw [hcons, prevO_succ hi]
  unfold prevO
  by_cases h : i = 0
  · simp [h, srtL]
  · simp only [if_neg h]; rfl
theorem fvalid_l0 (l : List ByteArray) (h : smallL l) : file_Valid.l0 l FU 0 = some (if srtL none l = true then .inr () else .inl false) := by
  have hl := h.1
  have := loopN l.length (by omega) (fun k i (_ : Unit) => file_Valid.l0 l k i) (fun i _ => some (if srtL (prevO l i) (l.drop i) = true then .inr () else .inl false))
    (fun k s => by
      have hd : decide (((l.length : Nat) : Int) < (l.length : Int)) = false := by simp
      have : srtL (prevO l l.length) [] = true := by cases prevO l l.length <;> rfl
      simp [file_Valid.l0, this])
    (fun k i hi hw s ih => by
      have hd : decide ((i : Int) < (l.length : Int)) = true := by simp; omega
      have hg : 0 ≤ (i : Int) ∧ (i : Int) < (l.length : Int) := ⟨by omega, by omega⟩
      have ih' := ih ()
      rw [srt_step hi]
      simp only [file_Valid.l0, hd, if_true, hg, and_self, vN_eq (h.gt hi), Option.bind_some, hw, ih']
      rw [gt_nat l i hi]
      cases vN l[i] with
      | false => rfl
      | true =>
        by_cases h0 : i = 0
        · subst h0; simp
        · have hw2 : wi64 ((i : Int) - 1) = ((i - 1 : Nat) : Int) := by rw [wi64_id (by omega)]; omega
          have hg2 : 0 ≤ ((i - 1 : Nat) : Int) ∧ ((i - 1 : Nat) : Int) < (l.length : Int) := ⟨by omega, by omega⟩
          have hp : decide ((i : Int) > 0) = true := by simp; omega
          have hb : l[i].size ≤ 1000 := h.2 _ (List.getElem_mem hi)
          simp only [Bool.not_true, Bool.false_eq_true, if_false, hp, if_true, hw2, hg2, and_self, ltS_eq (h.gt (show i - 1 < l.length by omega)) hb, Option.bind_some, h0, Bool.true_and]
          cases ltS (gt l ((i - 1 : Nat) : Int)) l[i] with
          | false => rfl
          | true => simp) ()
  rw [this]; simp [prevO]
def numB (i : Int) : Bool := decide (1 ≤ i) && decide (i ≤ 1099511627776)
theorem numbered_eq (i : Int) : file_numbered i = some (numB i) := by
  unfold file_numbered numB
  by_cases h : 1 ≤ i <;> simp [h]
def validF (f : Fi) : Bool := numB f.id && (vN f.nm && (decide (f.da.size ≤ 600) && (timeB f.un && (decide (f.ho.length ≤ 4) && (if f.sd = true then srtL none f.ho else (f.un == 0) && f.ho.isEmpty)))))
theorem len0 (l : List ByteArray) : ((l.length : Int) == 0) = l.isEmpty := by
  cases l with
  | nil => rfl
  | cons x r => simp; omega
theorem fValid_eq (f : Fi) (h1 : f.nm.size ≤ 1000) (h2 : smallL f.ho) : file_Valid f.id f.nm f.da f.sd f.un f.ho = some (validF f) := by
  unfold file_Valid validF
  rw [numbered_eq, vN_eq h1, fvalid_l0 _ h2]
  cases numB f.id with
  | false => rfl
  | true =>
    cases vN f.nm with
    | false => rfl
    | true =>
      by_cases a1 : f.da.size ≤ 600
      · have a1' : ¬ (f.da.size : Int) > 600 := by omega
        unfold timeB
        by_cases a2 : 0 ≤ f.un
        · have a2' : ¬ f.un < 0 := by omega
          by_cases a3 : f.un ≤ 1099511627776
          · have a3' : ¬ f.un > 1099511627776 := by omega
            by_cases a4 : f.ho.length ≤ 4
            · have a4' : ¬ (f.ho.length : Int) > 4 := by omega
              simp only [Bool.not_true, Bool.false_eq_true, if_false, Option.bind_some, a1, a1', a2, a2', a3, a3', a4, a4', decide_true, decide_false, Bool.true_and]
              cases f.sd with
              | false =>
                simp only [Bool.not_false, if_true, len0, Bool.false_eq_true, if_false]
                cases f.un == 0 <;> rfl
              | true =>
                simp only [Bool.not_true, if_true, Bool.false_eq_true, if_false]
                cases srtL none f.ho <;> rfl
            · have a4' : (f.ho.length : Int) > 4 := by omega
              simp [a1, a1', a2, a2', a3, a3', a4, a4']
          · have a3' : f.un > 1099511627776 := by omega
            simp [a1, a1', a2, a2', a3, a3']
        · have a2' : f.un < 0 := by omega
          simp [a1, a1', a2, a2']
      · have a1' : (f.da.size : Int) > 600 := by omega
        simp [a1, a1']
def newF (i : Int) (s : ByteArray) : Fi × Int := if vN s = false then (fi0, 2) else if numB i = false then (fi0, 1) else (⟨i, s, e0, false, 0, []⟩, 0)
abbrev tup6 (f : Fi) (e : Int) : Int × ByteArray × ByteArray × Bool × Int × (List ByteArray) × Int := (f.id, f.nm, f.da, f.sd, f.un, f.ho, e)
/-! ### whatever is done -/
def fewO (f : Fi) (o : ApiOp) : Bool := fewB f.nm f.da f.ho && (decide (o.Text.size ≤ 700) && decide (o.Name.size ≤ 700))
theorem fewO_eq (f : Fi) (o : ApiOp) : law08_few f.id f.nm f.da f.sd f.un f.ho o = some (fewO f o) := by
  unfold law08_few fewO
  rw [Few7_eq]
  cases fewB f.nm f.da f.ho with
  | false => rfl
  | true =>
    have e1 : decide ((o.Text.size : Int) ≤ 700) = decide (o.Text.size ≤ 700) := decide_eq_decide.2 (by omega)
    have e2 : decide ((o.Name.size : Int) ≤ 700) = decide (o.Name.size ≤ 700) := decide_eq_decide.2 (by omega)
    simp only [Option.bind_some, if_true, e1, e2, Bool.true_and]
    cases decide (o.Text.size ≤ 700) <;> rfl
theorem fewO_do {f : Fi} {o : ApiOp} (h : fewO f o = true) (fl : Int) : file_Do f.id f.nm f.da f.sd f.un f.ho o fl = some (tupD (doF f o fl)) := by
  simp only [fewO, Bool.and_eq_true, decide_eq_true_eq] at h
  have := few_all h.1
  exact Do_eq f o fl (fewB_small h.1) (by omega) (by omega)
end Go.Cen
