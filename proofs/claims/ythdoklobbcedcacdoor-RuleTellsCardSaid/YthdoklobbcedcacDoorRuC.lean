/- RULE: the floor; which are due. -/
import Derived.Test.YthdoklobbcedcacDoorRuB
set_option linter.unusedVariables false
set_option linter.unusedSimpArgs false
set_option maxRecDepth 100000
namespace Go.Cen
def cl40 (t : Int) : Int := if 1099511627776 < (if 0 > t then 0 else t) then 1099511627776 else if 0 > t then 0 else t
def flF (a t : Int) : Int := if cl40 t > a then cl40 t else a
theorem Floor_eq (a t : Int) : rule_Floor a t = some (flF a t) := rfl
/-! ### which are due -/
def dueF (l : List ApiFile) (fl : Int) : List Int := (l.filter (fun f => mayF f.Sealed f.Until f.Holds fl == 0)).map (·.ID)
theorem rdue_l0 (l : List ApiFile) (fl : Int) (h : l.length ≤ 1000) : ref07_Due.l0 l fl FU [] 0 = some (dueF l fl) := by
  have hL : LIM = 1099511627776 := rfl
  have := loopNI l.length (by omega) (fun k i (n : List Int) => ref07_Due.l0 l fl k n i) (fun i n => some (n ++ dueF (l.drop i) fl)) (fun i n => n.length ≤ i)
    (fun k n hn => by
      have hd : decide (((l.length : Nat) : Int) < (l.length : Int)) = false := by simp
      simp [ref07_Due.l0, dueF])
    (fun k i hi hw n hn ih => by
      have hd : decide ((i : Int) < (l.length : Int)) = true := by simp; omega
      have hg : 0 ≤ (i : Int) ∧ (i : Int) < (l.length : Int) := ⟨by omega, by omega⟩
      have hcons : l.drop i = l[i] :: l.drop (i + 1) := List.drop_eq_getElem_cons hi
      have hlim : n.length + ([l[i].ID] : List Int).length ≤ LIM := by simp; omega
      simp only [ref07_Due.l0, hd, if_true, hg, and_self, gt_nat l i hi, hw, hcons, rMay_eq, Option.bind_some, hlim, dueF, List.filter_cons]
      cases q : mayF l[i].Sealed l[i].Until l[i].Holds fl == 0 with
      | true =>
        simp only [if_true, Option.bind_some]
        rw [ih _ (by simp; omega)]
        simp [dueF]
      | false =>
        simp only [Bool.false_eq_true, if_false, Option.bind_some]
        rw [ih _ (by omega)]
        simp [dueF]) [] (Nat.le_refl _)
  rw [this]; simp
theorem due_l0 (l : List ApiFile) (fl : Int) (h : l.length ≤ 1000) : rule_due_1.l0 l fl rule_Due.y1 FU 0 ([] : List Int) = some (.inr (dueF l fl)) := by
  have hL : LIM = 1099511627776 := rfl
  have := loopNI l.length (by omega) (fun k i (n : List Int) => rule_due_1.l0 l fl rule_Due.y1 k i n) (fun i n => some (.inr (n ++ dueF (l.drop i) fl))) (fun i n => n.length ≤ i)
    (fun k n hn => by
      have hd : decide (((l.length : Nat) : Int) < (l.length : Int)) = false := by simp
      simp [rule_due_1.l0, dueF])
    (fun k i hi hw n hn ih => by
      have hd : decide ((i : Int) < (l.length : Int)) = true := by simp; omega
      have hg : 0 ≤ (i : Int) ∧ (i : Int) < (l.length : Int) := ⟨by omega, by omega⟩
      have hcons : l.drop i = l[i] :: l.drop (i + 1) := List.drop_eq_getElem_cons hi
      have hlim : n.length + ([l[i].ID] : List Int).length ≤ LIM := by simp; omega
      simp only [rule_due_1.l0, hd, if_true, hg, and_self, gt_nat l i hi, hw, hcons, May_eq, Option.bind_some, rule_Due.y1, hlim, dueF, List.filter_cons]
      cases q : mayF l[i].Sealed l[i].Until l[i].Holds fl == 0 with
      | true =>
        simp only [if_true, Option.bind_some, Bool.false_eq_true, if_false]
        rw [ih _ (by simp; omega)]
        simp [dueF]
      | false =>
        simp only [Bool.false_eq_true, if_false, Option.bind_some]
        rw [ih _ (by omega)]
        simp [dueF]) [] (Nat.le_refl _)
  rw [this]; simp
theorem row_l0 (a : List Int) (h : a.length ≤ 100000) : ref05_Row a a = some true := by
  unfold ref05_Row
  rw [loop_eq a a rfl (by omega) (fun x y => x == y) (ref05_Row.l0 a a) (fun k hd => by simp only [ref05_Row.l0, hd]; rfl)
      (fun k i hi hd hg hg2 hw => by
        simp only [ref05_Row.l0, hd, if_true, hg, hg2, and_self, hw, bne_self_eq_false, beq_self_eq_true, Bool.false_eq_true, if_false, decide_true])]
  have : (a.zip a).all (fun p => p.1 == p.2) = true := (zip_all_eq (fun x y => x == y) (fun x y => by simp) a a rfl).2 rfl
  rw [if_pos this]; simp
theorem rFloor_eq (a t : Int) : ref07_Floor a t = some (flF a t) := by
  unfold ref07_Floor flF cl40
  by_cases h : t < 0
  · have : 0 > t := h
    simp [h, this]
    split <;> rfl
  · have : ¬ 0 > t := h
    simp [h]
    by_cases h2 : 1099511627776 < t
    · simp [h2]; split <;> rfl
    · simp [h2]; split <;> rfl
theorem tells_l0 (l : List ApiFile) (fl : Int) (h : l.length ≤ 1000) : ∃ r, law07_RuleTells.l0 l true fl FU 0 = some r ∧ (r = .inl true ∨ r = .inr ()) := by
  have := loopN l.length (by omega) (fun k i (_ : Unit) => (∃ r, law07_RuleTells.l0 l true fl k i = some r ∧ (r = .inl true ∨ r = .inr ()))) (fun _ _ => True)
    (fun k n => by
      have hd : decide (((l.length : Nat) : Int) < (l.length : Int)) = false := by simp
      simp [law07_RuleTells.l0])
    (fun k i hi hw n ih => by
      have hd : decide ((i : Int) < (l.length : Int)) = true := by simp; omega
      have hg : 0 ≤ (i : Int) ∧ (i : Int) < (l.length : Int) := ⟨by omega, by omega⟩
      have ih' := ih ()
      simp only [law07_RuleTells.l0, hd, if_true, hg, and_self, gt_nat l i hi, hw, Few7_eq, Option.bind_some, rMay_eq, May_eq, Kept_eq, bne_self_eq_false, Bool.false_eq_true, if_false, eq_iff_iff, iff_true]
      cases fewB l[i].Name l[i].Data l[i].Holds with
      | false => exact ⟨.inl true, rfl, .inl rfl⟩
      | true =>
        have e : (if l[i].Sealed = true then some (keptF l[i].Sealed l[i].Until l[i].Holds fl != (mayF l[i].Sealed l[i].Until l[i].Holds fl != 0)) else some (keptF l[i].Sealed l[i].Until l[i].Holds fl != false)) = some false := by
          unfold keptF mayF
          cases l[i].Sealed with
          | false => rfl
          | true =>
            by_cases q : fl < l[i].Until
            · simp [q]
            · cases hh : l[i].Holds with
              | nil => simp [q]
              | cons x r => simp [q]
        simp only [e, Bool.not_true, Bool.false_eq_true, if_false, Option.bind_some]
        simpa using ih') ()
  simpa using this
theorem law07_RuleTells_eq (l : List ApiFile) (fl t : Int) : law07_RuleTells l fl t = some true := by
  unfold law07_RuleTells
  simp only [works07, Option.bind_some, Bool.not_true, Bool.false_eq_true, if_false]
  by_cases h : (l.length : Int) > 200
  · simp [h]
  · obtain ⟨r, e1, e2⟩ := tells_l0 l fl (by omega)
    simp only [h, decide_false, Bool.false_eq_true, if_false, e1, Option.bind_some]
    rcases e2 with rfl | rfl
    · rfl
    · have hlen : (dueF l fl).length ≤ 100000 := by
        unfold dueF; rw [List.length_map]
        have := List.length_filter_le (fun f : ApiFile => mayF f.Sealed f.Until f.Holds fl == 0) l
        omega
      have e3 : rule_Due l fl = some (dueF l fl) := by
        unfold rule_Due rule_due rule_due_1
        simp only [Option.bind_some]
        rw [due_l0 l fl (by omega)]; rfl
      have e4 : ref07_Due l fl = some (dueF l fl) := by unfold ref07_Due; rw [rdue_l0 l fl (by omega)]; rfl
      simp [e3, e4, row_l0 _ hlen, Floor_eq, rFloor_eq]
end Go.Cen
