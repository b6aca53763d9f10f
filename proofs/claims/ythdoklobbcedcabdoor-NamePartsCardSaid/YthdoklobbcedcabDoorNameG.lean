/- NAME: how many runes two texts have together. -/
import Derived.Test.YthdoklobbcedcabDoorNameF
set_option linter.unusedVariables false
set_option linter.unusedSimpArgs false
namespace Go.Cen
theorem cont_drop : ∀ (m : Nat) (b : List Int), isB b → m ≤ b.length → (∀ k, k < m → 128 ≤ bn b k ∧ bn b k ≤ 191) → cnt b = m + cnt (b.drop m)
  | 0, b, _, _, _ => by simp
  | m + 1, b, hB, hm, hk => by
    have hne : b ≠ [] := by intro e; rw [e] at hm; simp at hm
    have h0 := hk 0 (by omega)
    have hbad := dec_bad (bn_lt hB 0) h0.1 (by omega) (bn_lt hB 1)
    have ih := cont_drop m (b.drop 1) (isB_drop hB 1) (by rw [List.length_drop]; omega) (fun k hk' => by rw [bn_drop, Nat.add_comm]; exact hk (k + 1) (by omega))
    rw [cnt_cons hne, hbad]
    simp only
    rw [ih, List.drop_drop, Nat.add_comm 1 m]; omega
theorem cont_bytes {l : List Int} (h : isB l) (hl : l ≠ []) (hb : ¬ bad l) : ∀ k, 1 ≤ k → k < (dec l).2 → 128 ≤ bn l k ∧ bn l k ≤ 191 := by
  intro k h1 h2
  rcases good_cases h hl hb with ⟨a, e⟩ | ⟨a1, a2, a3, a4, a5, e⟩ | ⟨a1, a2, a3, a4, a5, a6, a7, a8, a9, e⟩ | ⟨a1, a2, a3, a4, a5, a6, a7, a8, a9, a10, a11, e⟩
  · rw [e] at h2; simp only at h2; omega
  · rw [e] at h2; simp only at h2
    obtain rfl : k = 1 := by omega
    exact ⟨a4, a5⟩
  · rw [e] at h2; simp only at h2
    rcases (by omega : k = 1 ∨ k = 2) with rfl | rfl
    · exact ⟨a4, a5⟩
    · exact ⟨a6, a7⟩
  · rw [e] at h2; simp only at h2
    rcases (by omega : k = 1 ∨ k = 2 ∨ k = 3) with rfl | rfl | rfl
    · exact ⟨a4, a5⟩
    · exact ⟨a6, a7⟩
    · exact ⟨a8, a9⟩
theorem bn_app_right (a b : List Int) (k : Nat) : bn (a ++ b) (a.length + k) = bn b k := by
  show (List.getD (a ++ b) ((a.length + k : Nat) : Int).toNat default).toNat = (List.getD b ((k : Int)).toNat default).toNat
  rw [Int.toNat_natCast, Int.toNat_natCast]
  simp only [List.getD_eq_getElem?_getD]
  rw [List.getElem?_append_right (by omega), Nat.add_sub_cancel_left]
theorem cnt_app_le (b : List Int) (hbB : isB b) : ∀ a, isB a → cnt (a ++ b) ≤ cnt a + cnt b := by
  refine seg_ind (by rw [cnt_nil, List.nil_append]; omega) (fun l hl hB ih => ?_)
  have hlen := List.length_pos_iff.2 hl
  have hne : l ++ b ≠ [] := by simp [hl]
  have hAB := isB_app hB hbB
  have hw := dec_w l hl
  have hw2 := dec_w (l ++ b) hne
  by_cases h1 : bad l
  · have hl1 : (dec l).2 = 1 := by rw [bad_w h1]
    rw [hl1] at ih
    have hcl : cnt l = cnt (l.drop 1) + 1 := by rw [cnt_cons hl, hl1]
    by_cases hw1 : (dec (l ++ b)).2 = 1
    · rw [cnt_cons hne, hw1, (take_app b (by omega : 1 ≤ l.length)).2, hcl]; omega
    · have hnb : ¬ bad (l ++ b) := fun e => hw1 (by rw [bad_w e])
      have hgt : l.length < (dec (l ++ b)).2 := by
        by_cases hle : (dec (l ++ b)).2 ≤ l.length
        · exfalso
          have e := dec_local hAB hne hnb (l.drop (dec (l ++ b)).2) (isB_drop hB _) (dec (l ++ b)).2 (Nat.le_refl _)
          rw [(take_app b hle).1, List.take_append_drop] at e
          rw [← e, hl1] at hw1
          exact hw1 rfl
        · omega
      obtain ⟨m, hm⟩ : ∃ m, (dec (l ++ b)).2 = l.length + m := ⟨(dec (l ++ b)).2 - l.length, by omega⟩
      have hmb : m ≤ b.length := by have := hw2.2.2; rw [List.length_append] at this; omega
      have hdrop : (l ++ b).drop (l.length + m) = b.drop m := by simp
      have hcont := cont_drop m b hbB hmb (fun k hk => by
        have := cont_bytes hAB hne hnb (l.length + k) (by omega) (by omega)
        rwa [bn_app_right] at this)
      rw [cnt_cons hne, hm, hdrop, hcl]; omega
  · have hd := dec_front hB hl h1 b hbB
    rw [cnt_cons hne, cnt_cons hl, hd, (take_app b hw.2.2).2]; omega
theorem segs_bytes : ∀ l, isB l → segsOk l = true → ∀ x ∈ l, 32 ≤ x ∧ x ≠ 47 := by
  refine seg_ind (fun _ x hx => by cases hx) (fun l hl hB ih hs => ?_)
  obtain ⟨h1, h2, h3⟩ := segsOk_good hl hs
  have hlen := List.length_pos_iff.2 hl
  intro x hx
  rw [← List.take_append_drop (dec l).2 l] at hx
  rcases List.mem_append.1 hx with hx | hx
  · by_cases hw : 2 ≤ (dec l).2
    · have := take_high hB hl h1 hw x hx
      omega
    · have hw1 := dec_w l hl
      have e2 : (dec l).2 = 1 := by omega
      rw [e2, take1 hB hlen] at hx
      simp only [List.mem_cons, List.not_mem_nil, or_false] at hx
      have he : (dec l).1 = bn l 0 := by
        rcases dec_cases l hl hB with ⟨a, e⟩ | ⟨_, e⟩ | ⟨a, _⟩
        · rw [e]
        · exact absurd e h1
        · omega
      rw [he] at h2
      simp only [oddN, Bool.or_eq_false_iff, decide_eq_false_iff_not, beq_eq_false_iff_ne] at h2
      rw [hx]
      exact ⟨by omega, h2.2.1⟩
  · exact ih h3 x hx
theorem parts_loop {l : List Int} (hB : isB l) (hn : l.length ≤ 1000) (hv : validN l = true) : law03_NameParts.l0 (strOfNums l) FU 0 = some (.inr ()) := by
  have hs := segs_bytes l hB (valid_segs hv)
  have hends : bn l 0 ≠ 32 ∧ bn l (l.length - 1) ≠ 32 := by
    simp only [validN, Bool.and_eq_true, bne_iff_ne] at hv
    exact ⟨hv.2.2.2.1, hv.2.2.2.2⟩
  have := loopN l.length (by omega) (fun k i (_ : Unit) => law03_NameParts.l0 (strOfNums l) k i) (fun _ _ => some (.inr ())) (fun k s => by
      have hd : decide (((l.length : Nat) : Int) < (l.length : Int)) = false := by simp
      simp only [law03_NameParts.l0, strOfNums_size, hd]
      rfl)
    (fun k i hi hw s ih => by
      have ih' := ih ()
      have hd : decide ((i : Int) < (l.length : Int)) = true := by simp; omega
      have hg : (0 : Int) ≤ (i : Int) ∧ (i : Int) < (l.length : Int) := ⟨by omega, by omega⟩
      have hb := hs l[i] (List.getElem_mem hi)
      have hbt := byte_str hB i hi
      have c1 : (l[i] == 47) = false := by simp [hb.2]
      have c2 : decide (l[i] < 32) = false := by simp; omega
      have hw1 : wi64 ((l.length : Int) - 1) = (l.length : Int) - 1 := wi64_id (by omega)
      simp only [law03_NameParts.l0, strOfNums_size, hd, hg, and_self, decide_true, if_true, hbt, c1, c2, Bool.false_eq_true, if_false, hw, hw1]
      by_cases h32 : l[i] = 32
      · have d : (l[i] == 32) = true := by simp [h32]
        have hbi : bn l i = 32 := by
          have := gt_bn hB i
          rw [gt_nat l i hi] at this; omega
        have i0 : ((i : Int) == 0) = false := by
          simp only [beq_eq_false_iff_ne]
          intro e
          have : i = 0 := by omega
          rw [this] at hbi; exact hends.1 hbi
        have i1 : ((i : Int) == (l.length : Int) - 1) = false := by
          simp only [beq_eq_false_iff_ne]
          intro e
          have : i = l.length - 1 := by omega
          rw [this] at hbi; exact hends.2 hbi
        simp only [d, if_true, i0, i1, Bool.false_eq_true, if_false, Option.bind_some]
        exact ih'
      · have d : (l[i] == 32) = false := by simp [h32]
        simp only [d, Bool.false_eq_true, if_false, Option.bind_some]
        exact ih') ()
  exact this
theorem bn_last {l : List Int} (k : Nat) : bn l k = bn l k := rfl
theorem valid_app {a b : List Int} (aB : isB a) (bB : isB b) (ha : validN a = true) (hb : validN b = true) (hm : cnt a + cnt b ≤ 24) : validN (a ++ b) = true := by
  have sa := valid_segs ha
  have sb := valid_segs hb
  have hc := cnt_app b bB a aB sa
  have hss := segs_app b bB a aB sa sb
  simp only [validN, Bool.and_eq_true, decide_eq_true_eq, bne_iff_ne] at ha hb ⊢
  have hane : a ≠ [] := by intro e; rw [e, cnt_nil] at ha; omega
  have hbne : b ≠ [] := by intro e; rw [e, cnt_nil] at hb; omega
  have la := List.length_pos_iff.2 hane
  have lb := List.length_pos_iff.2 hbne
  refine ⟨by omega, by omega, hss, ?_, ?_⟩
  · rw [bn_app b la]; exact ha.2.2.2.1
  · have e : (a ++ b).length - 1 = a.length + (b.length - 1) := by rw [List.length_append]; omega
    rw [e, bn_app_right]; exact hb.2.2.2.2
set_option maxHeartbeats 1000000 in
theorem law03_NameParts_eq (a0 b0 : ByteArray) : law03_NameParts a0 b0 = some true := by
  unfold law03_NameParts
  have hL := LIM_val
  rw [works03]
  simp only [Option.bind_some, Bool.not_true, Bool.false_eq_true, if_false, orS, if_true]
  by_cases hc : (decide ((a0.size : Int) > 200) || decide ((b0.size : Int) > 200)) = true
  · rw [if_pos hc]
  · rw [if_neg hc]
    simp only [Bool.or_eq_true, decide_eq_true_eq] at hc
    obtain ⟨a, aB, rfl, al⟩ := str_eq a0
    obtain ⟨b, bB, rfl, bl⟩ := str_eq b0
    rw [if_pos (by omega), strOfNums_append, name_Count_str (isB_app aB bB) (by rw [List.length_append]; omega), name_Count_str aB (by omega), name_Count_str bB (by omega), name_Valid_str aB (by omega), name_Valid_str bB (by omega), name_Valid_str (isB_app aB bB) (by rw [List.length_append]; omega)]
    simp only [Option.bind_some, strOfNums_size]
    have hca := cnt_le a aB
    have hcb := cnt_le b bB
    have hle := cnt_app_le b bB a aB
    have hw : wi64 ((cnt a : Int) + (cnt b : Int)) = (cnt a : Int) + (cnt b : Int) := wi64_id (by omega)
    have d1 : decide ((cnt (a ++ b) : Int) ≤ (cnt a : Int) + (cnt b : Int)) = true := by simp; omega
    have d2 : (((a.length : Int) == 0) == ((cnt a : Int) == 0)) = true := by
      by_cases h : a = []
      · rw [h, cnt_nil]; rfl
      · have h1 := cnt_pos h
        have h2 := List.length_pos_iff.2 h
        have e1 : ((a.length : Int) == 0) = false := by simp; omega
        have e2 : ((cnt a : Int) == 0) = false := by simp; omega
        rw [e1, e2]; rfl
    have d3 : decide ((cnt a : Int) ≤ (a.length : Int)) = true := by simp; omega
    have hsum : a.length + b.length ≤ LIM := by omega
    simp only [hw, d1, d2, d3, if_true, if_pos hsum]
    cases hva : validN a with
    | false =>
      simp only [Bool.false_eq_true, if_false, Option.bind_some, Bool.not_false, if_true]
    | true =>
      have hpl := parts_loop aB (by omega) hva
      simp only [if_true, hpl, Option.bind_some, Bool.not_true, Bool.false_eq_true, if_false]
      cases hvb : validN b with
      | false => simp only [Bool.not_false, if_true, Option.bind_some]
      | true =>
        have hceq := cnt_app b bB a aB (valid_segs hva)
        have d4 : ((cnt (a ++ b) : Int) == (cnt a : Int) + (cnt b : Int)) = true := by rw [hceq]; simp
        simp only [Bool.not_true, Bool.false_eq_true, if_false, d4, if_true]
        by_cases h24 : (cnt a : Int) + (cnt b : Int) > 24
        · simp only [h24, decide_true, if_true, Option.bind_some]
        · have hva2 := valid_app aB bB hva hvb (by omega)
          simp only [h24, decide_false, Bool.false_eq_true, if_false, hva2, if_true, Option.bind_some]
end Go.Cen
