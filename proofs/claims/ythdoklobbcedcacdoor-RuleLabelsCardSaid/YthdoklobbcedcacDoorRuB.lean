/- RULE: the laws on one file. -/
import Derived.Test.YthdoklobbcedcacDoorRuA
set_option linter.unusedVariables false
set_option linter.unusedSimpArgs false
set_option maxRecDepth 100000
namespace Go.Cen
/-! ### how much is looked at -/
def fewB (nm da : ByteArray) (l : List ByteArray) : Bool := (l.take 201).all (fun e => decide (e.size ≤ 200)) && (decide (l.length ≤ 200) && (decide (da.size ≤ 2000) && decide (nm.size ≤ 200)))
theorem fewF_l0 (l : List ByteArray) : ∀ (d i k : Nat), d + i = 201 → i ≤ l.length → d < k → law07_Few.l0 l k (i : Int) = some (if ((l.drop i).take d).all (fun e => decide (e.size ≤ 200)) = true then .inr () else .inl false) := by
  intro d
  induction d with
  | zero =>
    intro i k h1 h2 h3
    obtain ⟨k, rfl⟩ : ∃ m, k = m + 1 := ⟨k - 1, by omega⟩
    have hi : i = 201 := by omega
    subst hi
    by_cases h : (201 : Nat) < l.length
    · have hd : decide ((((201 : Nat)) : Int) < (l.length : Int)) = true := by simp; omega
      have : decide ((((201 : Nat)) : Int) ≤ 200) = false := by decide
      simp [law07_Few.l0, hd, this]
    · have hd : decide ((((201 : Nat)) : Int) < (l.length : Int)) = false := by simp; omega
      simp [law07_Few.l0, hd]
  | succ d ih =>
    intro i k h1 h2 h3
    obtain ⟨k, rfl⟩ : ∃ m, k = m + 1 := ⟨k - 1, by omega⟩
    by_cases h : i < l.length
    · have hd : decide ((i : Int) < (l.length : Int)) = true := by simp; omega
      have h20 : decide ((i : Int) ≤ 200) = true := by simp; omega
      have hg : 0 ≤ (i : Int) ∧ (i : Int) < (l.length : Int) := ⟨by omega, by omega⟩
      have hw : wi64 ((i : Int) + 1) = ((i + 1 : Nat) : Int) := by rw [wi64_id (by omega)]; omega
      have hcons : l.drop i = l[i] :: l.drop (i + 1) := List.drop_eq_getElem_cons h
      simp only [law07_Few.l0, hd, h20, if_true, Option.bind_some, hg, and_self, gt_nat l i h, hw]
      rw [ih (i + 1) k (by omega) (by omega) (by omega), hcons]
      simp only [List.take_succ_cons, List.all_cons]
      by_cases q : (l[i].size : Int) > 200
      · have q' : ¬ l[i].size ≤ 200 := by omega
        simp [q, q']
      · have q' : l[i].size ≤ 200 := by omega
        simp [q, q']
    · have hd : decide ((i : Int) < (l.length : Int)) = false := by simp; omega
      have hz : l.drop i = [] := List.drop_eq_nil_iff.2 (by omega)
      simp only [law07_Few.l0, hd, hz]
      simp
theorem Few7_eq (i : Int) (nm da : ByteArray) (sd : Bool) (un : Int) (l : List ByteArray) : law07_Few i nm da sd un l = some (fewB nm da l) := by
  have hF : FU = 4611686018427387904 := rfl
  have := fewF_l0 l 201 0 FU (by omega) (by omega) (by omega)
  unfold law07_Few fewB
  rw [show law07_Few.l0 l FU 0 = _ from this]
  simp only [List.drop_zero, Option.bind_some]
  cases (l.take 201).all (fun e => decide (e.size ≤ 200)) with
  | false => rfl
  | true =>
    simp only [if_true, Bool.true_and]
    have e1 : decide ((l.length : Int) ≤ 200) = decide (l.length ≤ 200) := decide_eq_decide.2 (by omega)
    have e2 : decide ((da.size : Int) ≤ 2000) = decide (da.size ≤ 2000) := decide_eq_decide.2 (by omega)
    have e3 : decide ((nm.size : Int) ≤ 200) = decide (nm.size ≤ 200) := decide_eq_decide.2 (by omega)
    rw [e1, e2, e3]
    cases decide (l.length ≤ 200) <;> cases decide (da.size ≤ 2000) <;> rfl
theorem fewB_ok {nm da : ByteArray} {l : List ByteArray} (h : fewB nm da l = true) : l.length ≤ 200 ∧ ∀ x ∈ l, x.size ≤ 200 := by
  simp only [fewB, Bool.and_eq_true, decide_eq_true_eq] at h
  refine ⟨h.2.1, fun e he => ?_⟩
  have ht : l.take 201 = l := List.take_of_length_le (by omega)
  rw [ht] at h
  have := List.all_eq_true.1 h.1 e he
  simpa using this
theorem fewB_small {nm da : ByteArray} {l : List ByteArray} (h : fewB nm da l = true) : smallL l :=
  ⟨by have := (fewB_ok h).1; omega, fun x hx => by have := (fewB_ok h).2 x hx; omega⟩
theorem insL_few {l : List ByteArray} {s : ByteArray} (h : l.length ≤ 200 ∧ ∀ x ∈ l, x.size ≤ 200) (hs : s.size ≤ 200) : smallL (insL s l) :=
  ⟨by rw [insL_len]; omega, fun x hx => by
    rcases (insL_mem s l).1 hx with e | e
    · rw [e]; omega
    · have := h.2 x e; omega⟩
theorem holdF_small {sd : Bool} {l : List ByteArray} {s : ByteArray} (h : l.length ≤ 200 ∧ ∀ x ∈ l, x.size ≤ 200) (hs : s.size ≤ 200) : smallL (holdF sd l s).1 := by
  have h0 : smallL l := ⟨by omega, fun x hx => by have := h.2 x hx; omega⟩
  unfold holdF
  repeat' split
  all_goals first | exact h0 | exact insL_few h hs
/-! ### the laws -/
theorem seq_refl (s : ByteArray) : seq s s = true := (seq_iff s s).2 rfl
theorem ins_comm {a b : ByteArray} (h : a ≠ b) : ∀ l, insL b (insL a l) = insL a (insL b l)
  | [] => by
    cases q : ltS a b with
    | true => simp [insL, q, ltS_asym q]
    | false => simp [insL, q, ltS_total h q]
  | x :: r => by
    cases qa : ltS x a with
    | true =>
      cases qb : ltS x b with
      | true => simp [insL, qa, qb, ins_comm h r]
      | false =>
        have : ltS b a = true := by
          by_cases e : x = b
          · rw [← e]; exact qa
          · exact ltS_trans (ltS_total e qb) qa
        simp [insL, qa, qb, this]
    | false =>
      cases qb : ltS x b with
      | true =>
        have : ltS a b = true := by
          by_cases e : x = a
          · rw [← e]; exact qb
          · exact ltS_trans (ltS_total e qa) qb
        simp [insL, qa, qb, this]
      | false =>
        cases q : ltS a b with
        | true => simp [insL, qa, qb, q, ltS_asym q]
        | false => simp [insL, qa, qb, q, ltS_total h q]
theorem labels_l0 (l : List ByteArray) (h : smallL l) (y : Bool) : ∃ r, law07_RuleLabels.l0 l y FU 1 = some r ∧ (r = .inl y ∨ r = .inr ()) := by
  have hF : FU = 4611686018427387904 := rfl
  have key : ∀ (d i k : Nat), l.length - i ≤ d → 1 ≤ i → d < k → ∃ r, law07_RuleLabels.l0 l y k (i : Int) = some r ∧ (r = .inl y ∨ r = .inr ()) := by
    intro d
    have hl := h.1
    induction d with
    | zero =>
      intro i k h1 h2 h3
      obtain ⟨k, rfl⟩ : ∃ m, k = m + 1 := ⟨k - 1, by omega⟩
      have hd : decide ((i : Int) < (l.length : Int)) = false := by simp; omega
      exact ⟨.inr (), by simp only [law07_RuleLabels.l0, hd]; rfl, .inr rfl⟩
    | succ d ih =>
      intro i k h1 h2 h3
      obtain ⟨k, rfl⟩ : ∃ m, k = m + 1 := ⟨k - 1, by omega⟩
      by_cases hi : i < l.length
      · have hd : decide ((i : Int) < (l.length : Int)) = true := by simp; omega
        have hg : 0 ≤ (i : Int) ∧ (i : Int) < (l.length : Int) := ⟨by omega, by omega⟩
        have hw : wi64 ((i : Int) + 1) = ((i + 1 : Nat) : Int) := by rw [wi64_id (by omega)]; omega
        have hw2 : wi64 ((i : Int) - 1) = ((i - 1 : Nat) : Int) := by rw [wi64_id (by omega)]; omega
        have hg2 : 0 ≤ ((i - 1 : Nat) : Int) ∧ ((i - 1 : Nat) : Int) < (l.length : Int) := ⟨by omega, by omega⟩
        obtain ⟨r, e1, e2⟩ := ih (i + 1) k (by omega) (by omega) (by omega)
        simp only [law07_RuleLabels.l0, hd, if_true, hw2, hg2, hg, and_self, rltS_eq (h.gt (show i - 1 < l.length by omega)) (h.gt hi), Option.bind_some, hw, e1]
        cases ltS (gt l ((i - 1 : Nat) : Int)) (gt l (i : Int)) with
        | true => exact ⟨r, rfl, e2⟩
        | false => exact ⟨.inl y, rfl, .inl rfl⟩
      · have hd : decide ((i : Int) < (l.length : Int)) = false := by simp; omega
        exact ⟨.inr (), by simp only [law07_RuleLabels.l0, hd]; rfl, .inr rfl⟩
  have hl := h.1
  exact key l.length 1 FU (by omega) (by omega) (by omega)
theorem hasS_ins {a b : ByteArray} (h : a ≠ b) (l : List ByteArray) : hasS (insL a l) b = hasS l b := by
  have : hasS (insL a l) b = true ↔ hasS l b = true := by
    rw [hasS_iff, hasS_iff, insL_mem]
    exact ⟨fun q => q.elim (fun e => absurd e.symm h) id, .inr⟩
  cases h1 : hasS (insL a l) b <;> cases h2 : hasS l b <;> simp_all
theorem hold_two {sd : Bool} {l : List ByteArray} {a b : ByteArray} (h : a ≠ b) :
    (((holdF sd l a).2 != 0) || ((holdF sd (holdF sd l a).1 b).2 != 0)) = !(sd && (vN a && (vN b && (!hasS l a && (!hasS l b && decide (l.length ≤ 2)))))) := by
  unfold holdF
  cases sd with
  | false => rfl
  | true =>
    cases vN a with
    | false => rfl
    | true =>
      cases hasS l a with
      | true => cases vN b <;> rfl
      | false =>
        by_cases h4 : 4 ≤ l.length
        · have : ¬ l.length ≤ 2 := by omega
          simp [h4, this]
        · cases vN b with
          | false => simp [h4]
          | true =>
            cases hb : hasS l b with
            | true => simp [h4, hasS_ins h, hb]
            | false =>
              by_cases h3 : l.length ≤ 2
              · have : ¬ 4 ≤ l.length + 1 := by omega
                simp [h4, hasS_ins h, hb, h3, insL_len, this]
              · have : 4 ≤ l.length + 1 := by omega
                simp [h4, hasS_ins h, hb, h3, insL_len, this]
theorem ors4 (a b c d : Bool) : (if a = true then some true else (if b = true then some true else (if c = true then some true else some d))) = some ((a || b) || (c || d)) := by cases a <;> cases b <;> cases c <;> rfl
theorem law07_RuleLabels_eq (i : Int) (nm da : ByteArray) (sd : Bool) (un : Int) (l : List ByteArray) (a b : ByteArray) : law07_RuleLabels i nm da sd un l a b = some true := by
  unfold law07_RuleLabels
  simp only [works07, Option.bind_some, Bool.not_true, Bool.false_eq_true, if_false, Few7_eq, if_true]
  cases hf : fewB nm da l with
  | false => rfl
  | true =>
    have hl := fewB_small hf
    have hfw := fewB_ok hf
    simp only [Bool.not_true, Bool.false_eq_true, if_false, Option.bind_some]
    by_cases ha : (a.size : Int) > 200
    · simp [ha]
    by_cases hb : (b.size : Int) > 200
    · simp [ha, hb]
    simp only [ha, hb, decide_false, Bool.false_eq_true, if_false, Option.bind_some]
    cases hab : seq a b with
    | true => rfl
    | false =>
      have hne : a ≠ b := fun e => by rw [e, seq_refl] at hab; cases hab
      have ha' : a.size ≤ 1000 := by omega
      have hb' : b.size ≤ 1000 := by omega
      obtain ⟨r, e1, e2⟩ := labels_l0 l hl true
      rw [e1]
      rcases e2 with rfl | rfl
      · rfl
      simp only [Option.bind_some, Bool.false_eq_true, if_false]
      have s1 : smallL (holdF sd l a).1 := holdF_small hfw (by omega)
      have s2 : smallL (holdF sd l b).1 := holdF_small hfw (by omega)
      simp only [Hold_eq _ _ _ _ _ hl ha', Hold_eq _ _ _ _ _ hl hb', Hold_eq _ _ _ _ _ s1 hb', Hold_eq _ _ _ _ _ s2 ha', Option.bind_some]
      have t1 := hold_two (sd := sd) (l := l) hne
      have t2 := hold_two (sd := sd) (l := l) (fun e => hne e.symm)
      have t3 : (sd && (vN a && (vN b && (!hasS l a && (!hasS l b && decide (l.length ≤ 2)))))) = (sd && (vN b && (vN a && (!hasS l b && (!hasS l a && decide (l.length ≤ 2)))))) := by
        cases sd <;> cases vN a <;> cases vN b <;> cases hasS l a <;> cases hasS l b <;> rfl
      rw [t3] at t1
      rw [ors4, t1, t2]
      cases hc : (sd && (vN b && (vN a && (!hasS l b && (!hasS l a && decide (l.length ≤ 2)))))) with
      | false =>
        rw [hc] at t1 t2
        simp only [Bool.not_false, Bool.or_self, Option.bind_some, if_true]
        generalize ((holdF sd l a).2 != 0) = A at t1 ⊢
        generalize ((holdF sd (holdF sd l a).1 b).2 != 0) = B at t1 ⊢
        generalize ((holdF sd l b).2 != 0) = C at t2 ⊢
        generalize ((holdF sd (holdF sd l b).1 a).2 != 0) = D at t2 ⊢
        revert t1 t2
        cases A <;> cases B <;> cases C <;> cases D <;> simp
      | true =>
        simp only [Bool.and_eq_true, Bool.not_eq_true', decide_eq_true_eq] at hc
        obtain ⟨c1, c2, c3, c4, c5, c6⟩ := hc
        have h4 : ¬ 4 ≤ l.length := by omega
        have h5 : ¬ 4 ≤ l.length + 1 := by omega
        subst c1
        have f1 : holdF true l a = (insL a l, 0) := by simp [holdF, c2, c3, c4, c5, h4]
        have f2 : holdF true l b = (insL b l, 0) := by simp [holdF, c2, c3, c4, c5, h4]
        have f3 : holdF true (insL a l) b = (insL b (insL a l), 0) := by simp [holdF, c2, c3, hasS_ins hne, c4, c5, insL_len, h5]
        have f4 : holdF true (insL b l) a = (insL a (insL b l), 0) := by simp [holdF, c2, c3, hasS_ins (fun e => hne e.symm), c4, c5, insL_len, h5]
        simp only [f1, f2, f3, f4, Bool.not_true, Bool.or_self, Option.bind_some, Bool.false_eq_true, if_false]
        rw [ins_comm hne l, Same_eq _ _ _ _ _ _ _ (by rw [insL_len, insL_len]; omega)]
        simp
end Go.Cen
