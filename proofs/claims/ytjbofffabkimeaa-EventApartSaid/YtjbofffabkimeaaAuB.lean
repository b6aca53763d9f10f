/- EVENT: the law Apart, whatever the library's table holds. -/
import Derived.Test.YtjbofffabkimeaaAuA
set_option linter.unusedVariables false
set_option linter.unusedSimpArgs false
set_option maxRecDepth 100000
namespace Go.Cen
def okS (d : Dyn43) : Prop := match d with | .nil => False | .i53 a => 0 ≤ a ∧ a < 9223372036854775808 | .i54 s => s.size ≤ 100000 ∧ segsOk (byts s) = true | .i60 d => d.length = 32 ∧ isB d
theorem num_show [TabC] {a : Int} (h : 0 ≤ a ∧ a < 9223372036854775808) : ∃ s, event_number_show a = some s ∧ s.size ≤ 400002 := by
  obtain ⟨s, e, hs⟩ := Itoa_some h.1 h.2
  exact ⟨s, by unfold event_number_show; rw [e]; rfl, by omega⟩
theorem text_show {s : ByteArray} (h : s.size ≤ 100000) (hs : segsOk (byts s) = true) : ∃ t, event_text_show s = some t ∧ t.size ≤ 400002 := by
  have := quote_ok (byts_isB s) (by rw [byts_len]; omega) hs
  rw [strOfNums_byts] at this
  have hl := quoteL_len (byts_isB s)
  rw [byts_len] at hl
  exact ⟨_, by unfold event_text_show; rw [this]; rfl, by rw [strOfNums_size]; omega⟩
theorem sum_show {d : List Int} (h : d.length = 32) (hB : isB d) : ∃ t, event_sum_show d = some t ∧ t.size ≤ 400002 := by
  have hF : FU = 4611686018427387904 := rfl
  have := text_step h hB 32 0 FU [] (by omega) (by omega) (by omega) (by simp)
  have hl := textL_length d
  unfold event_sum_show sha_Text
  rw [this]
  simp only [Option.bind_some, List.nil_append, Int.toNat_zero, List.drop_zero, strOfNums_size]
  rw [if_pos (by omega)]
  exact ⟨_, rfl, by rw [sx_str, strOfNums_size]; simp; omega⟩
theorem sp_size : (⟨#[32]⟩ : ByteArray).size = 1 := rfl
theorem app_size (a b : ByteArray) : (a ++ b).size = a.size + b.size := ByteArray.size_append
theorem show_l0_some [TabC] {l : List Dyn43} (hn : l.length ≤ 10) : ∀ (r : List Dyn43) (i k : Nat) (s : ByteArray), l.drop i = r → i + r.length = l.length → r.length < k → s.size + 400003 * r.length ≤ 10000000 → (∀ d ∈ r, okS d) → ∃ t, event_Show.l0 l k s (i : Int) = some t
  | [], i, k, s, e, e2, hk, hs, hr => by
    obtain ⟨k, rfl⟩ : ∃ q, k = q + 1 := ⟨k - 1, by omega⟩
    simp only [List.length_nil] at e2
    have d : decide ((i : Int) < (l.length : Int)) = false := by simp; omega
    exact ⟨s, by simp only [event_Show.l0, d, Bool.false_eq_true, if_false]⟩
  | x :: r, i, k, s, e, e2, hk, hs, hr => by
    have hL := LIM_val
    obtain ⟨k, rfl⟩ : ∃ q, k = q + 1 := ⟨k - 1, by omega⟩
    simp only [List.length_cons] at e2 hk hs
    have hi : i < l.length := by omega
    have d : decide ((i : Int) < (l.length : Int)) = true := by simp; omega
    have hw : wi64 ((i : Int) + 1) = ((i + 1 : Nat) : Int) := by rw [wi64_id (by omega)]; omega
    rw [List.drop_eq_getElem_cons hi] at e
    simp only [List.cons.injEq] at e
    have hg : gt l (i : Int) = x := by rw [gt_nat l i hi]; exact e.1
    have hok := hr x (by simp)
    have go : ∀ t : ByteArray, t.size ≤ 400002 → ∃ u, event_Show.l0 l k (s ++ ((⟨#[32]⟩ : ByteArray) ++ t)) ((i + 1 : Nat) : Int) = some u := fun t ht =>
      show_l0_some hn r (i + 1) k _ e.2 (by omega) (by omega) (by rw [app_size, app_size, sp_size]; omega) (fun y hy => hr y (by simp [hy]))
    have q1 : ∀ t : ByteArray, t.size ≤ 400002 → (⟨#[32]⟩ : ByteArray).size + t.size ≤ LIM := fun t ht => by rw [sp_size]; omega
    have q2 : ∀ t : ByteArray, t.size ≤ 400002 → s.size + ((⟨#[32]⟩ : ByteArray) ++ t).size ≤ LIM := fun t ht => by rw [app_size, sp_size]; omega
    have gi : 0 ≤ (i : Int) ∧ (i : Int) < (l.length : Int) := by omega
    simp only [event_Show.l0, d, if_true, gi, and_self, hg]
    cases x with
    | nil => exact hok.elim
    | i53 a =>
      obtain ⟨t, e3, ht⟩ := num_show hok
      simp only [e3, Option.bind_some, q1 t ht, q2 t ht, if_true, hw]
      exact go t ht
    | i54 a =>
      obtain ⟨t, e3, ht⟩ := text_show hok.1 hok.2
      simp only [e3, Option.bind_some, q1 t ht, q2 t ht, if_true, hw]
      exact go t ht
    | i60 a =>
      obtain ⟨t, e3, ht⟩ := sum_show hok.1 hok.2
      simp only [hok.1, e3, Option.bind_some, q1 t ht, q2 t ht, if_true, hw]
      exact go t ht
theorem valid_okS {e : ApiEvent} (h : okE e) (hv : validE e = true) : ∀ d ∈ partsE e, okS d := by
  obtain ⟨hI, hT, hN⟩ := valid_nums h hv
  have nm : (e.Kind = 0 ∨ e.Kind = 4 ∨ e.Kind = 5) → segsOk (byts e.Name) = true := fun hk => by
    unfold validE at hv
    rw [if_pos hk] at hv
    simp only [Bool.and_eq_true] at hv
    exact valid_segs hv.2.1
  intro d hd
  unfold partsE at hd
  split at hd
  · rename_i hk
    simp only [List.mem_cons, List.not_mem_nil, or_false] at hd
    rcases hd with rfl | rfl
    · exact ⟨by omega, by omega⟩
    · exact ⟨h.1, nm hk⟩
  all_goals (repeat' split at hd)
  all_goals (simp only [List.mem_cons, List.not_mem_nil, or_false] at hd)
  all_goals (try (rcases hd with rfl | rfl | rfl | rfl))
  all_goals (try (rcases hd with rfl | rfl))
  all_goals (try subst hd)
  all_goals first | exact ⟨by omega, by omega⟩ | exact h.2
def WORDS : List ByteArray := [(⟨#[99, 114, 101, 97, 116, 101]⟩ : ByteArray), (⟨#[97, 112, 112, 101, 110, 100]⟩ : ByteArray), (⟨#[115, 101, 97, 108]⟩ : ByteArray), (⟨#[101, 120, 116, 101, 110, 100]⟩ : ByteArray), (⟨#[104, 111, 108, 100]⟩ : ByteArray), (⟨#[114, 101, 108, 101, 97, 115, 101]⟩ : ByteArray), (⟨#[100, 101, 108, 101, 116, 101]⟩ : ByteArray), (⟨#[116, 105, 99, 107]⟩ : ByteArray)]
theorem words_eq : event_words = some WORDS := rfl
theorem words_len : ∀ n < 8, (gt WORDS ((n : Nat) : Int)).size ≤ 7 := by decide +kernel
theorem Show_some [TabC] {e : ApiEvent} (h : okE e) (hv : validE e = true) : ∃ t, event_Show e = some t := by
  have hF : FU = 4611686018427387904 := rfl
  have hk := valid_kind hv
  obtain ⟨n, hn⟩ := Int.eq_ofNat_of_zero_le hk.1
  have hw := words_len n (by omega)
  rw [← hn] at hw
  have hp := parts_len e
  obtain ⟨t, ht⟩ := show_l0_some (l := partsE e) (by omega) (partsE e) 0 FU (gt WORDS e.Kind) rfl (by omega) (by omega) (by omega) (valid_okS h hv)
  unfold event_Show
  rw [event_Valid_eq h, hv]
  simp only [Option.bind_some, Bool.not_true, Bool.false_eq_true, if_false, words_eq, parts_eq]
  rw [if_pos (by omega), show event_Show.l0 (partsE e) FU (gt WORDS e.Kind) 0 = some t from ht]
  exact ⟨t, rfl⟩
/-! ### the example -/
def evC : ApiEvent := ⟨0, 1, ⟨#[97]⟩, 0, 0, List.replicate 32 0⟩
theorem show_evC [TabC] : event_Show evC = some ⟨#[99, 114, 101, 97, 116, 101, 32, 49, 32, 34, 97, 34]⟩ := by kernel_rfl
theorem works05 [TabC] : law05_works = some true := by
  have h : ((⟨0, 1, ⟨#[97]⟩, 0, 0, List.replicate 32 0⟩ : ApiEvent)) = evC := rfl
  unfold law05_works
  rw [h, show_evC]
  decide +kernel
theorem put_apart {a b : ApiEvent} (ha : okE a) (hb : okE b) (va : validE a = true) (vb : validE b = true) {n : Nat} (hn : n = if (putE b).length < (putE a).length then (putE b).length else (putE a).length) : (putE a).take n = (putE b).take n ↔ a = b := by
  constructor
  · intro h
    by_cases c : (putE b).length < (putE a).length
    · rw [if_pos c] at hn
      have e : (putE b).take n = putE b := List.take_of_length_le (by omega)
      rw [e] at h
      have := List.take_append_drop n (putE a)
      rw [h] at this
      exact (putE_inj ha hb va vb (r := []) (s := (putE a).drop n) (by rw [List.append_nil]; exact this.symm)).1
    · rw [if_neg c] at hn
      have e : (putE a).take n = putE a := List.take_of_length_le (by omega)
      rw [e] at h
      have := List.take_append_drop n (putE b)
      rw [← h] at this
      exact (putE_inj ha hb va vb (r := (putE b).drop n) (s := []) (by rw [List.append_nil]; exact this)).1
  · rintro rfl; rfl
theorem putE_isB1 {e : ApiEvent} (h : okE e) : isB (putE e) := isB_app (numL_isB _) (isB_flat fun d hd => bytD_isB (parts_ok h d hd))
theorem law05_EventApart_eq [TabC] (a b : ApiEvent) (h1 : a.Sum.length = 32) (h2 : isB a.Sum) (h3 : b.Sum.length = 32) (h4 : isB b.Sum) : law05_EventApart a b = some true := by
  unfold law05_EventApart
  rw [works05]
  simp only [Option.bind_some, Bool.not_true, Bool.false_eq_true, if_false]
  by_cases c1 : (a.Name.size : Int) > 300
  · simp [c1]
  · by_cases c2 : (b.Name.size : Int) > 300
    · simp [c2]
    · have d1 : decide ((a.Name.size : Int) > 300) = false := by simpa using c1
      have d2 : decide ((b.Name.size : Int) > 300) = false := by simpa using c2
      have oa : okE a := ⟨by omega, h1, h2⟩
      have ob : okE b := ⟨by omega, h3, h4⟩
      simp only [d1, d2, Bool.false_eq_true, if_false, Option.bind_some, event_Put_eq oa, event_Put_eq ob, putR]
      cases va : validE a with
      | false => rfl
      | true =>
        cases vb : validE b with
        | false => rfl
        | true =>
          obtain ⟨N, hN⟩ : ∃ N : Nat, N = if (putE b).length < (putE a).length then (putE b).length else (putE a).length := ⟨_, rfl⟩
          have hN2 : (if ((putE b).length : Int) < ((putE a).length : Int) then ((putE b).length : Int) else ((putE a).length : Int)) = (N : Int) := by rw [hN]; split <;> split <;> omega
          have hA : N ≤ (putE a).length := by rw [hN]; split <;> omega
          have hB : N ≤ (putE b).length := by rw [hN]; split <;> omega
          have e1 : sx (strOfNums (putE a)) 0 (N : Int) = strOfNums ((putE a).take N) := by rw [sx_str]; simp
          have e2 : sx (strOfNums (putE b)) 0 (N : Int) = strOfNums ((putE b).take N) := by rw [sx_str]; simp
          simp only [if_true, Bool.not_true, Bool.false_eq_true, if_false, Option.bind_some, strOfNums_size, hN2, e1, e2, seq_str (isB_take (putE_isB1 oa) N) (isB_take (putE_isB1 ob) N)]
          rw [if_pos (by omega), if_pos (by omega)]
          have key := put_apart oa ob va vb hN
          by_cases e : a = b
          · subst e
            obtain ⟨t, ht⟩ := Show_some oa va
            simp only [decide_true, event_eta, BEq.rfl, if_true, Bool.not_true, Bool.false_eq_true, if_false, ht, Option.bind_some, seq_refl]
          · have f1 : decide ((putE a).take N = (putE b).take N) = false := by simp [key, e]
            have f2 : eq_ApiEvent a b = false := by rw [← Bool.not_eq_true, eq_event_iff]; exact e
            simp only [f1, f2, BEq.rfl, if_true, Bool.not_false, Option.bind_some]
end Go.Cen
