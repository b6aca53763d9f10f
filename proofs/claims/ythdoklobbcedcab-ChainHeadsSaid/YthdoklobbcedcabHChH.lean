/- CHAIN: the heads, and the inputs. -/
import Derived.Test.YthdoklobbcedcabHChD
set_option linter.unusedVariables false
set_option linter.unusedSimpArgs false
set_option maxRecDepth 100000
namespace Go.Cen
theorem rHead_eq {h : List Int} (hh : h.length = 32) {l : List ApiEvent} (hl : okL l) (hn : l.length ≤ 1000000) : ref06_Head h l = some (headP h l) := by
  have := loopI l (by omega) (fun k i (s : List Int) => ref06_Head.l0 l k i s) (fun r s => some (headS s r)) (fun r s => s.length = 32)
    (fun k s hd hI => by simp only [ref06_Head.l0, hd, headS]; rfl)
    (fun k i x r s hi hlen hm hd hg hx hw hI ih => by
      have he := hl x hm
      simp only [ref06_Head.l0, hd, if_true, hg, and_self, hx, (Next_eq hI he).2, Option.bind_some, nextP]
      cases hv : validE x with
      | false => simp [headS, hv]; rfl
      | true =>
        simp only [if_true, Bool.not_true, Bool.false_eq_true, if_false, hw]
        rw [ih _ (nx_ok hI he).1]
        simp [headS, hv]) h hh
  unfold ref06_Head
  rw [show ref06_Head.l0 l FU 0 h = _ from this, headS_eq]
  unfold headP
  cases allV l <;> rfl
theorem rInput_eq {l : List ApiEvent} (hl : okL l) (hn : l.length ≤ 10000) (i : Int) : ref06_Input l i = some (if allV l = true ∧ 0 ≤ i ∧ i < (l.length : Int) + 1 then strOfNums (gt (inp c0 hd0 l) i) else ⟨#[]⟩) := by
  unfold ref06_Input
  rw [rHeads_eq hl hn]
  simp only [Option.bind_some]
  cases hv : allV l with
  | false =>
    have : (if decide (i < 0) = true then some true else some (decide (i ≥ (([] : List (List Int)).length : Int)))) = some true := by
      by_cases q : i < 0
      · simp [q]
      · have : i ≥ 0 := by omega
        simp [q, this]
    simp only [Bool.false_eq_true, if_false, this, Option.bind_some, if_true, false_and]
  | true =>
    simp only [if_true, hds_len, true_and]
    by_cases q : i < 0
    · have : ¬ (0 ≤ i ∧ i < (l.length : Int) + 1) := by omega
      simp [q, this]
    · by_cases q2 : i ≥ ((l.length + 1 : Nat) : Int)
      · have : ¬ (0 ≤ i ∧ i < (l.length : Int) + 1) := by omega
        simp only [q, q2, decide_false, decide_true, Bool.false_eq_true, if_false, Option.bind_some, if_true, this]
      · have h3 : 0 ≤ i ∧ i < (l.length : Int) + 1 := by omega
        obtain ⟨n, rfl⟩ : ∃ n : Nat, i = (n : Int) := ⟨i.toNat, by omega⟩
        simp only [q, q2, decide_false, Bool.false_eq_true, if_false, Option.bind_some, rinput_eq hl hn hv (show n ≤ l.length by omega), h3, and_self, if_true]
theorem heads_l0 (x : List (List Int)) (hn : x.length ≤ 100000) : law06_ChainHeads.l0 x x FU 0 = some (.inr ()) := by
  rw [loop_eq x x rfl (by omega) (fun a b => eqA a b) (law06_ChainHeads.l0 x x) (fun k hd => by simp only [law06_ChainHeads.l0, hd]; rfl)
      (fun k i hi hd hg hg2 hw => by
        simp only [law06_ChainHeads.l0, hd, if_true, hg, and_self, hw, decide_true, eqA_refl, Bool.not_true, Bool.false_eq_true, if_false])]
  rw [if_pos ((zip_all_eq (fun a b => eqA a b) (fun a b => eqA_iff a b) x x rfl).2 rfl)]
theorem law06_ChainHeads_eq (h : List Int) (l : List ApiEvent) (i : Int) (h32 : h.length = 32) (hB : isB h) (s1 : sumsOk l) : law06_ChainHeads h l i = some true := by
  unfold law06_ChainHeads
  simp only [works06, Option.bind_some, Bool.not_true, Bool.false_eq_true, if_false, Few_eq]
  cases hf : fewE l with
  | false => rfl
  | true =>
    obtain ⟨hl, hn⟩ := few_ok s1 hf
    have hlen : (if allV l = true then hds hd0 l else []).length ≤ 100000 := by
      split
      · rw [hds_len]; omega
      · simp
    simp only [Bool.not_true, Bool.false_eq_true, if_false, Head_eq h32 hl (by omega), rHead_eq h32 hl (by omega), Heads_eq hl (by omega), rHeads_eq hl (by omega), Option.bind_some, bne_self_eq_false, eqA_refl, heads_l0 _ hlen, Input_eq hl (by omega), rInput_eq hl (by omega), seq_refl, if_true]
    by_cases h0 : (l.length : Int) > 0
    · have g0 : (0 : Int) ≤ 0 ∧ (0 : Int) < (l.length : Int) := ⟨by omega, h0⟩
      have hlt : 0 < l.length := by omega
      have e0 : gt l 0 = l[0] := gt_nat l 0 hlt
      have he : okE l[0] := hl _ (List.getElem_mem hlt)
      have n1 := (Next_eq h32 he).1
      have n2 := (Next_eq h32 he).2
      simp only [h0, decide_true, if_true, g0, and_self, e0, n1, n2, Option.bind_some, eqA_refl, bne_self_eq_false, Bool.not_true, Bool.false_eq_true, if_false]
    · simp only [h0, decide_false, Bool.false_eq_true, if_false, Option.bind_some]
end Go.Cen
