/- CHAIN: the document's answer. -/
import Derived.Test.YthdoklobbcedcacChC
set_option linter.unusedVariables false
set_option linter.unusedSimpArgs false
set_option maxRecDepth 100000
namespace Go.Cen
noncomputable def rHeadsS (acc : List (List Int)) (h : List Int) : List ApiEvent → List (List Int) ⊕ List (List Int)
  | [] => .inr acc
  | e :: r => if validE e then rHeadsS (acc ++ [nx h e]) (nx h e) r else .inl []
theorem rHeadsS_eq : ∀ (l : List ApiEvent) (acc : List (List Int)) (h : List Int), rHeadsS (acc ++ [h]) h l = if allV l = true then .inr (acc ++ hds h l) else .inl []
  | [], acc, h => rfl
  | e :: r, acc, h => by
    have := rHeadsS_eq r (acc ++ [h]) (nx h e)
    simp only [rHeadsS, allV, List.all_cons, hds] at this ⊢
    rw [this]
    by_cases hv : validE e = true
    · simp [hv]
    · have hv' : validE e = false := by simpa using hv
      simp [hv']
theorem rStart_eq : ref06_Start = some hd0 := by
  unfold ref06_Start
  rw [c0_eq, hd0_eq.2.1]; rfl
theorem rHeads_eq {l : List ApiEvent} (hl : okL l) (hn : l.length ≤ 10000) : ref06_Heads l = some (if allV l then hds hd0 l else []) := by
  have hL := LIM_val
  have := loopI l (by omega) (fun k i (s : List (List Int) × List Int) => ref06_Heads.l0 l k s.1 i s.2) (fun r s => some (rHeadsS s.1 s.2 r)) (fun r s => s.2.length = 32 ∧ s.1.length + r.length ≤ 20000)
    (fun k s hd hI => by simp only [ref06_Heads.l0, hd, rHeadsS]; rfl)
    (fun k i x r s hi hlen hm hd hg hx hw hI ih => by
      have he := hl x hm
      simp only [List.length_cons] at hI
      simp only [ref06_Heads.l0, hd, if_true, hg, and_self, hx, (Next_eq hI.1 he).2, Option.bind_some, nextP]
      cases hv : validE x with
      | false => simp [rHeadsS, hv]
      | true =>
        have hq : s.1.length + ([nx s.2 x] : List (List Int)).length ≤ LIM := by simp only [List.length_cons, List.length_nil]; omega
        simp only [if_true, Bool.not_true, Bool.false_eq_true, if_false, hw, hq]
        have := ih (s.1 ++ [nx s.2 x], nx s.2 x) ⟨(nx_ok hI.1 he).1, by simp only [List.length_append, List.length_cons, List.length_nil]; omega⟩
        simp only at this
        rw [this]
        simp [rHeadsS, hv]) ([hd0], hd0) ⟨hd0_eq.2.2.1, by simp only [List.length_cons, List.length_nil]; omega⟩
  unfold ref06_Heads
  rw [rStart_eq]
  simp only [Option.bind_some]
  rw [show ref06_Heads.l0 l FU [hd0] 0 hd0 = _ from this, show ([hd0] : List (List Int)) = [] ++ [hd0] from rfl, rHeadsS_eq]
  cases allV l <;> rfl
theorem rinput_eq {l : List ApiEvent} (hl : okL l) (hn : l.length ≤ 10000) (hv : allV l = true) {n : Nat} (h : n ≤ l.length) : ref06_input (hds hd0 l) l (n : Int) = some (strOfNums (gt (inp c0 hd0 l) (n : Int))) := by
  have hL := LIM_val
  unfold ref06_input
  cases n with
  | zero =>
    have : gt (inp c0 hd0 l) ((0 : Nat) : Int) = c0 := gt_some (inp_zero l c0 hd0)
    rw [this]; rfl
  | succ n =>
    have hz : (((n + 1 : Nat) : Int) == 0) = false := by simp; omega
    have hw : wi64 (((n + 1 : Nat) : Int) - 1) = (n : Int) := by rw [wi64_id (by omega)]; omega
    have g1 : 0 ≤ (n : Int) ∧ (n : Int) < (l.length : Int) := ⟨by omega, by omega⟩
    have g2 : 0 ≤ (n : Int) ∧ (n : Int) < ((hds hd0 l).length : Int) := by rw [hds_len]; omega
    have he : okE l[n] := hl _ (List.getElem_mem _)
    have hve : validE l[n] = true := List.all_eq_true.1 hv _ (List.getElem_mem _)
    have hpl := putE_len he
    have e1 : gt (hds hd0 l) (n : Int) = fin hd0 (l.take n) := gt_some (hds_get l hd0 n (by omega))
    have e2 : gt (inp c0 hd0 l) ((n + 1 : Nat) : Int) = fin hd0 (l.take n) ++ putE l[n] := gt_some (inp_get l c0 hd0 n (by omega))
    have h32 := (fin_ok hd0_eq.2.2.1 hd0_eq.2.2.2 (okL_take hl n)).1
    have hq : (strOfNums (fin hd0 (l.take n))).size + (strOfNums (putE l[n])).size ≤ LIM := by rw [strOfNums_size, strOfNums_size]; omega
    simp only [hz, Bool.false_eq_true, if_false, hw, g1, g2, and_self, if_true, gt_nat l n (by omega), ref05_Put_eq he, putR, hve, Option.bind_some, e1, ref_bytes h32, hq, e2, strOfNums_append]
def colO : List (List Int) → List (List Int) → (ByteArray × ByteArray × Bool) ⊕ Unit
  | x :: r, y :: s => if x = y then colO r s else .inl (strOfNums x, strOfNums y, true)
  | _, _ => .inr ()
theorem colO_eq : ∀ x y, (match colO x y with | .inl v => v | .inr _ => (⟨#[]⟩, ⟨#[]⟩, false)) = colS x y
  | [], [] => rfl
  | [], _ :: _ => rfl
  | _ :: _, [] => rfl
  | x :: r, y :: s => by
    have := colO_eq r s
    simp only [colO, colS]
    by_cases q : x = y
    · rw [if_pos q, if_pos q]; exact this
    · rw [if_neg q, if_neg q]
theorem take_rev (x : List (List Int)) (n : Nat) (h : n < x.length) : (x.take (n + 1)).reverse = x[n] :: (x.take n).reverse := by
  rw [List.take_succ_eq_append_getElem h]; simp
theorem rcol_l0 {a b : List ApiEvent} (ha : okL a) (hb : okL b) (na : a.length ≤ 10000) (nb : b.length ≤ 10000) (va : allV a = true) (vb : allV b = true) : ∀ (i j k : Nat), i ≤ a.length + 1 → j ≤ b.length + 1 → i < k →
    ref06_Collide.l0 (hds hd0 a) a (hds hd0 b) b k ((i : Int) - 1) ((j : Int) - 1) = some (colO ((inp c0 hd0 a).take i).reverse ((inp c0 hd0 b).take j).reverse)
  | 0, j, k, h1, h2, hk => by
    obtain ⟨k, rfl⟩ : ∃ m, k = m + 1 := ⟨k - 1, by omega⟩
    have : decide ((((0 : Nat)) : Int) - 1 ≥ 0) = false := by decide
    simp [ref06_Collide.l0, this, colO]
  | i + 1, 0, k, h1, h2, hk => by
    obtain ⟨k, rfl⟩ : ∃ m, k = m + 1 := ⟨k - 1, by omega⟩
    have d1 : decide (((i + 1 : Nat) : Int) - 1 ≥ 0) = true := by simp
    have d2 : decide ((((0 : Nat)) : Int) - 1 ≥ 0) = false := by decide
    simp only [ref06_Collide.l0, d1, d2, if_true, Option.bind_some, Bool.false_eq_true, if_false]
    rw [take_rev _ i (by rw [inp_len]; omega)]
    simp [colO]
  | i + 1, j + 1, k, h1, h2, hk => by
    obtain ⟨k, rfl⟩ : ∃ m, k = m + 1 := ⟨k - 1, by omega⟩
    have d1 : decide (((i + 1 : Nat) : Int) - 1 ≥ 0) = true := by simp
    have d2 : decide (((j + 1 : Nat) : Int) - 1 ≥ 0) = true := by simp
    have e1 : ((i + 1 : Nat) : Int) - 1 = (i : Int) := by omega
    have e2 : ((j + 1 : Nat) : Int) - 1 = (j : Int) := by omega
    have w1 : wi64 ((i : Int) - 1) = (i : Int) - 1 := wi64_id (by omega)
    have w2 : wi64 ((j : Int) - 1) = (j : Int) - 1 := wi64_id (by omega)
    have li : i < (inp c0 hd0 a).length := by rw [inp_len]; omega
    have lj : j < (inp c0 hd0 b).length := by rw [inp_len]; omega
    have hu : isB (inp c0 hd0 a)[i] := inp_isB ha c0_isB hd0_eq.2.2.2 hd0_eq.2.2.1 _ (List.getElem_mem _)
    have hv : isB (inp c0 hd0 b)[j] := inp_isB hb c0_isB hd0_eq.2.2.2 hd0_eq.2.2.1 _ (List.getElem_mem _)
    have ih := rcol_l0 ha hb na nb va vb i j k (by omega) (by omega) (by omega)
    rw [take_rev _ i li, take_rev _ j lj]
    rw [e1] at d1
    rw [e2] at d2
    simp only [ref06_Collide.l0, e1, e2, d1, d2, if_true, Option.bind_some, rinput_eq ha na va (show i ≤ a.length by omega), rinput_eq hb nb vb (show j ≤ b.length by omega), gt_nat _ i li, gt_nat _ j lj, seq_str hu hv, w1, w2, ih, colO]
    by_cases q : (inp c0 hd0 a)[i] = (inp c0 hd0 b)[j]
    · simp [q]
    · simp [q]
theorem rCollide_eq {a b : List ApiEvent} (ha : okL a) (hb : okL b) (na : a.length ≤ 10000) (nb : b.length ≤ 10000) : ref06_Collide a b = some (colP a b) := by
  have hF : FU = 4611686018427387904 := rfl
  unfold ref06_Collide colP
  rw [rHeads_eq ha na, rHeads_eq hb nb]
  cases va : allV a with
  | false => simp
  | true =>
    cases vb : allV b with
    | false => simp
    | true =>
      have z1 : (((hds hd0 a).length : Int) == 0) = false := by rw [hds_len]; simp; omega
      have z2 : (((hds hd0 b).length : Int) == 0) = false := by rw [hds_len]; simp; omega
      have g1 : 0 ≤ (a.length : Int) ∧ (a.length : Int) < ((hds hd0 a).length : Int) := by rw [hds_len]; omega
      have g2 : 0 ≤ (b.length : Int) ∧ (b.length : Int) < ((hds hd0 b).length : Int) := by rw [hds_len]; omega
      simp only [if_true, Option.bind_some, z1, z2, Bool.false_eq_true, if_false, g1, g2, and_self, hds_last, Bool.true_and]
      cases eqA (fin hd0 a) (fin hd0 b) with
      | false => simp
      | true =>
        simp only [Bool.not_true, Bool.false_eq_true, if_false]
        have := rcol_l0 ha hb na nb va vb (a.length + 1) (b.length + 1) FU (Nat.le_refl _) (Nat.le_refl _) (by omega)
        have e1 : ((a.length + 1 : Nat) : Int) - 1 = (a.length : Int) := by omega
        have e2 : ((b.length + 1 : Nat) : Int) - 1 = (b.length : Int) := by omega
        rw [e1, e2, List.take_of_length_le (by rw [inp_len]; exact Nat.le_refl _), List.take_of_length_le (by rw [inp_len]; exact Nat.le_refl _)] at this
        rw [this]
        simp only [Option.bind_some, if_true]
        rw [← colO_eq]
        cases colO (inp c0 hd0 a).reverse (inp c0 hd0 b).reverse <;> rfl
theorem law06_ChainSame_eq (a0 a1 : List ApiEvent) (s0 : sumsOk a0) (s1 : sumsOk a1) : law06_ChainSame a0 a1 = some true := by
  unfold law06_ChainSame
  rw [works06]
  simp only [Option.bind_some, Bool.not_true, Bool.false_eq_true, if_false, Few_eq]
  cases f1 : fewE a0 with
  | false => rfl
  | true =>
    cases f2 : fewE a1 with
    | false => rfl
    | true =>
      obtain ⟨o1, n1⟩ := few_ok s0 f1
      obtain ⟨o2, n2⟩ := few_ok s1 f2
      simp only [if_true, Option.bind_some, Bool.not_true, Bool.false_eq_true, if_false]
      by_cases q1 : (a0.length : Int) > 6
      · simp [q1]
      · by_cases q2 : (a1.length : Int) > 6
        · simp [q1, q2]
        · simp only [decide_eq_false q1, decide_eq_false q2, Bool.false_eq_true, if_false, Option.bind_some, Collide_eq o1 o2 (by omega) (by omega), rCollide_eq o1 o2 (by omega) (by omega), seq_refl, if_true]
          simp
end Go.Cen
