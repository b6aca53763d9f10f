/- BUNDLE: a name as it is shown. -/
import Derived.Test.YtlojedndicppeaaGreatDoorGTNameK
import Derived.Test.YtlojedndicppeaaGreatDoorPx
import Derived.Test.YtlojedndicppeaaGreatDoorCenPl
set_option linter.unusedVariables false
set_option linter.unusedSimpArgs false
set_option maxRecDepth 100000
namespace Go.Cen
theorem odd_off {r : Nat} (h : oddN (r : Int) = false) : 32 ≤ r ∧ r ≠ 127 ∧ r ≠ 65533 := by
  simp only [oddN, Bool.or_eq_false_iff, decide_eq_false_iff_not, Bool.and_eq_false_iff, beq_eq_false_iff_ne] at h
  omega
theorem quote_ok {l : List Int} (hB : isB l) (hn : l.length ≤ 1000000) (hs : segsOk l = true) : name_Quote (strOfNums l) = some (strOfNums (quoteL l)) := by
  have hL := LIM_val
  unfold name_Quote
  rw [writeByte_eq _ _ _ (by simp; omega)]
  simp only [Option.bind_some, List.nil_append]
  have hbl := body_len l hB
  have := loopR l hB (by omega) (fun k i (s : List Int) => name_Quote.l0 (strOfNums l) k i true s) (fun r s => some (true, s ++ body r)) (fun r s => s.length + 4 * r.length ≤ 4000100 ∧ segsOk r = true)
    (fun k s hs => by
      simp only [name_Quote.l0, strOfNums_size, Nat.lt_irrefl, if_false, body_nil, List.append_nil])
    (fun k i s hi hne hB' hr hw _ hbt hI ih => by
      have hlt := drop_lt hne
      have b0 := bn_lt hB' 0
      obtain ⟨x, hx⟩ : ∃ x, x = l.drop i := ⟨_, rfl⟩
      rw [← hx] at hne hB' hr hw hbt hI ih hlt b0 ⊢
      have hbody := body_cons hne
      obtain ⟨hI1, hI2⟩ := hI
      obtain ⟨hnb, ho, hI3⟩ := segsOk_good hne hI2
      obtain ⟨o1, o2, o3⟩ := odd_off ho
      have hbr : name_broken (strOfNums l) (i : Int) ((dec x).1 : Int) = some false := by
        have : ((((dec x).1 : Nat) : Int) != 65533) = true := by simp; omega
        simp only [name_broken, this, if_true]
      simp only [name_Quote.l0, strOfNums_size, hi, if_true, hr, hw, hbt, orS, Option.bind_some, hbr]
      unfold shown at hbody
      by_cases c1 : (dec x).1 = 34 ∨ (dec x).1 = 92
      · have d1 : ((((dec x).1 : Int) == 34) || (((dec x).1 : Int) == 92)) = true := by simp; omega
        rw [if_pos c1] at hbody
        have hv : (dec x).1 < 128 := by omega
        have e1 : encI (dec x).1 = [((dec x).1 : Int)] := by unfold encI; rw [if_pos hv]
        simp only [d1, if_true]
        rw [writeByte_eq _ _ _ (by omega)]
        simp only [Option.bind_some]
        rw [writeRune_eq _ _ _ (by omega) (by omega) (by simp; omega), e1]
        simp only [Option.bind_some]
        rw [ih _ ⟨by simp only [List.length_append, List.length_cons, List.length_nil]; omega, hI3⟩, hbody]
        simp
      · have d1 : ((((dec x).1 : Int) == 34) || (((dec x).1 : Int) == 92)) = false := by simp; omega
        have d2 : (((dec x).1 : Int) == 10) = false := by simp; omega
        have d3 : (decide (((dec x).1 : Int) < 32) || ((((dec x).1 : Int) == 127) || false)) = false := by
          have h1 : ¬ ((dec x).1 : Int) < 32 := by omega
          have h2 : ¬ ((dec x).1 : Int) = 127 := by omega
          simp [h1, h2]
        rw [if_neg c1, if_neg (by omega), if_neg (by intro h; rcases h with h | h | h; omega; omega; exact hnb h)] at hbody
        have hrange : (dec x).1 ≤ 1114111 ∧ ((dec x).1 < 55296 ∨ 57344 ≤ (dec x).1) := by
          rcases dec_cases x hne hB' with ⟨a, e⟩ | ⟨_, e⟩ | ⟨_, _, _, a, b⟩
          · rw [e]; simp only; omega
          · exact absurd e hnb
          · exact ⟨a, b⟩
        have hw4 := dec_w x hne
        simp only [d1, d2, d3, Bool.false_eq_true, if_false]
        rw [writeRune_eq _ _ _ hrange.1 hrange.2 (by omega), enc_dec hB' hne hnb]
        simp only [Option.bind_some]
        rw [ih _ ⟨by simp only [List.length_append, List.length_take]; omega, hI3⟩, hbody]
        simp) [34] ⟨by simp; omega, hs⟩
  rw [show name_Quote.l0 (strOfNums l) FU 0 true [34] = _ from this]
  simp only [Option.bind_some]
  rw [writeByte_eq _ _ _ (by simp; omega)]
  simp only [Option.bind_some, strings_Builder_String]
  rw [if_pos (show bytesOk ([34] ++ body l ++ [34]) = true from (bytesOk_iff _).2 (quoteL_isB hB))]
  rfl
end Go.Cen

/- CHAIN: heads, inputs. -/
set_option linter.unusedVariables false
set_option linter.unusedSimpArgs false
set_option maxRecDepth 100000
namespace Go.Cen
theorem dgx (s : ByteArray) : ∃ d, d = (sha_Of s).getD [] := ⟨_, rfl⟩
/-- a text's digest -/
noncomputable def dg (s : ByteArray) : List Int := Classical.choose (dgx s)
theorem putE_isB {e : ApiEvent} (h : okE e) : isB (putE e) := isB_app (numL_isB _) (isB_flat fun d hd => bytD_isB (parts_ok h d hd))
def okL (l : List ApiEvent) : Prop := ∀ e ∈ l, okE e
def allV (l : List ApiEvent) : Bool := l.all validE
/-! ### all inputs, and heads -/
def c0 : List Int := [99, 101, 110, 111, 116, 97, 112, 104]
/-! ### what heads are -/
end Go.Cen

/- CHAIN: Collide, Few, the examples. -/
set_option linter.unusedVariables false
set_option linter.unusedSimpArgs false
set_option maxRecDepth 100000
namespace Go.Cen
/-! ### how many are looked at -/
def fewE (l : List ApiEvent) : Bool := (l.take 21).all (fun e => decide (e.Name.size ≤ 100)) && decide (l.length ≤ 20)
theorem few_l0 (l : List ApiEvent) : ∀ (d i k : Nat), d + i = 21 → i ≤ l.length → d < k → law06_Few.l0 l k (i : Int) = some (if ((l.drop i).take d).all (fun e => decide (e.Name.size ≤ 100)) = true then .inr () else .inl false) := by
  intro d
  induction d with
  | zero =>
    intro i k h1 h2 h3
    obtain ⟨k, rfl⟩ : ∃ m, k = m + 1 := ⟨k - 1, by omega⟩
    have hi : i = 21 := by omega
    subst hi
    by_cases h : (21 : Nat) < l.length
    · have hd : decide ((((21 : Nat)) : Int) < (l.length : Int)) = true := by simp; omega
      have : decide ((((21 : Nat)) : Int) ≤ 20) = false := by decide
      simp [law06_Few.l0, hd, this]
    · have hd : decide ((((21 : Nat)) : Int) < (l.length : Int)) = false := by simp; omega
      simp [law06_Few.l0, hd]
  | succ d ih =>
    intro i k h1 h2 h3
    obtain ⟨k, rfl⟩ : ∃ m, k = m + 1 := ⟨k - 1, by omega⟩
    by_cases h : i < l.length
    · have hd : decide ((i : Int) < (l.length : Int)) = true := by simp; omega
      have h20 : decide ((i : Int) ≤ 20) = true := by simp; omega
      have hg : 0 ≤ (i : Int) ∧ (i : Int) < (l.length : Int) := ⟨by omega, by omega⟩
      have hw : wi64 ((i : Int) + 1) = ((i + 1 : Nat) : Int) := by rw [wi64_id (by omega)]; omega
      have hcons : l.drop i = l[i] :: l.drop (i + 1) := List.drop_eq_getElem_cons h
      simp only [law06_Few.l0, hd, h20, if_true, Option.bind_some, hg, and_self, gt_nat l i h, hw]
      rw [ih (i + 1) k (by omega) (by omega) (by omega), hcons]
      simp only [List.take_succ_cons, List.all_cons]
      by_cases q : (l[i].Name.size : Int) > 100
      · have q' : ¬ l[i].Name.size ≤ 100 := by omega
        simp [q, q']
      · have q' : l[i].Name.size ≤ 100 := by omega
        simp [q, q']
    · have hd : decide ((i : Int) < (l.length : Int)) = false := by simp; omega
      have hz : l.drop i = [] := List.drop_eq_nil_iff.2 (by omega)
      simp only [law06_Few.l0, hd, hz]
      simp
theorem Few_eq (l : List ApiEvent) : law06_Few l = some (fewE l) := by
  have hF : FU = 4611686018427387904 := rfl
  have := few_l0 l 21 0 FU (by omega) (by omega) (by omega)
  unfold law06_Few fewE
  rw [show law06_Few.l0 l FU 0 = _ from this]
  simp only [List.drop_zero, Option.bind_some]
  cases (l.take 21).all (fun e => decide (e.Name.size ≤ 100)) with
  | false => rfl
  | true =>
    simp only [if_true, Bool.true_and, Option.some.injEq]
    by_cases h : l.length ≤ 20
    · have : (l.length : Int) ≤ 20 := by omega
      simp [h, this]
    · have : ¬ (l.length : Int) ≤ 20 := by omega
      simp [h, this]
def sumsOk (l : List ApiEvent) : Prop := ∀ e ∈ l, e.Sum.length = 32 ∧ isB e.Sum
theorem few_ok {l : List ApiEvent} (hs : sumsOk l) (h : fewE l = true) : okL l ∧ l.length ≤ 20 := by
  simp only [fewE, Bool.and_eq_true, decide_eq_true_eq] at h
  refine ⟨fun e he => ?_, h.2⟩
  have ht : l.take 21 = l := List.take_of_length_le (by omega)
  rw [ht] at h
  have := List.all_eq_true.1 h.1 e he
  simp only [decide_eq_true_eq] at this
  exact ⟨by omega, hs e he⟩
/-! ### from behind on -/
/-! ### the examples -/
end Go.Cen

/- BUNDLE: numbers in digits; an event as it is shown. -/
set_option linter.unusedVariables false
set_option linter.unusedSimpArgs false
set_option maxRecDepth 100000
namespace Go.Cen
/-! ### digits -/
def digL (n : Nat) : List Int := if h : n < 10 then [48 + (n : Int)] else digL (n / 10) ++ [48 + ((n % 10 : Nat) : Int)]
termination_by n
decreasing_by omega
theorem digL_lt {n : Nat} (h : n < 10) : digL n = [48 + (n : Int)] := by rw [digL, dif_pos h]
theorem digL_ge {n : Nat} (h : ¬ n < 10) : digL n = digL (n / 10) ++ [48 + ((n % 10 : Nat) : Int)] := by rw [digL, dif_neg h]
theorem digL_len : ∀ (k n : Nat), n < 10 ^ (k + 1) → 1 ≤ (digL n).length ∧ (digL n).length ≤ k + 1
  | 0, n, h => by rw [digL_lt (by omega)]; simp
  | k + 1, n, h => by
    by_cases c : n < 10
    · rw [digL_lt c]; simp
    · have h2 : n / 10 < 10 ^ (k + 1) := by
        rw [Nat.pow_succ 10 (k + 1)] at h
        omega
      obtain ⟨a, b⟩ := digL_len k (n / 10) h2
      rw [digL_ge c]
      simp only [List.length_append, List.length_cons, List.length_nil]
      omega
theorem ofNat_val {n : Nat} (h : n < 256) : ((UInt8.ofNat n).toNat : Int) = (n : Int) := by
  have : (UInt8.ofNat n).toNat = n % 256 := UInt8.toNat_ofNat'
  rw [this]; omega
theorem dec_digL (n : Nat) : (Go.Lib.decDigits n).map (fun b => (b.toNat : Int)) = digL n := by
  induction n using Nat.strongRecOn with
  | _ n ih =>
    by_cases c : n < 10
    · rw [digL_lt c, Go.Lib.decDigits, dif_pos c]
      simp only [List.map_cons, List.map_nil]
      rw [ofNat_val (by omega)]; simp
    · rw [digL_ge c, Go.Lib.decDigits, dif_neg c, List.map_append, ih _ (by omega)]
      simp only [List.map_cons, List.map_nil]
      rw [ofNat_val (by omega)]; simp
def itoL (a : Int) : List Int := if a < 0 then 45 :: digL a.natAbs else digL a.toNat
theorem itoL_len {a : Int} (h : -9223372036854775808 ≤ a ∧ a ≤ 9223372036854775807) : 1 ≤ (itoL a).length ∧ (itoL a).length ≤ 21 := by
  unfold itoL
  split
  · have := digL_len 19 a.natAbs (by omega)
    simp only [List.length_cons]; omega
  · have := digL_len 19 a.toNat (by omega)
    omega
theorem Itoa_eq {a : Int} (h : -9223372036854775808 ≤ a ∧ a ≤ 9223372036854775807) : strconv_Itoa a = some (strOfNums (itoL a)) := by
  unfold strconv_Itoa itoaS
  rw [if_pos h]
  simp only [Option.bind_some, Option.some.injEq]
  unfold itoL Go.Lib.itoa
  split
  · rw [← dec_digL, ← strOfNums_list]; rfl
  · rw [← dec_digL, ← strOfNums_list]
theorem wi64_range (x : Int) : -9223372036854775808 ≤ wi64 x ∧ wi64 x ≤ 9223372036854775807 := by rw [wi64_eq]; omega
theorem digits_l0 : ∀ (k n : Nat), n < 9223372036854775808 → n < 10 ^ k → 0 < k → k ≤ 100 → ref05_Digits k (n : Int) = some (strOfNums (digL n))
  | 0, n, _, _, hk, _ => by omega
  | k + 1, n, hn, h, _, hk => by
    have hL := LIM_val
    have t1 : ((n : Int)).tdiv 10 = ((n / 10 : Nat) : Int) := by rw [Int.tdiv_eq_ediv_of_nonneg (by omega)]; omega
    have t2 : ((n : Int)).tmod 10 = ((n % 10 : Nat) : Int) := by rw [Int.tmod_eq_emod_of_nonneg (by omega)]; omega
    have t3 : wi64 ((n / 10 : Nat) : Int) = ((n / 10 : Nat) : Int) := wi64_id (by omega)
    have t4 : wu8 (wi64 (48 + ((n % 10 : Nat) : Int))) = 48 + ((n % 10 : Nat) : Int) := by rw [wi64_id (by omega), wu8_eq]; omega
    simp only [ref05_Digits, t1, t2, t3, t4]
    by_cases c : n < 10
    · have d : decide ((n : Int) ≥ 10) = false := by simp; omega
      simp only [d, Bool.false_eq_true, if_false]
      rw [digL_lt c, Nat.mod_eq_of_lt c]
    · have d : decide ((n : Int) ≥ 10) = true := by simp; omega
      have h2 : n / 10 < 10 ^ k := by rw [Nat.pow_succ] at h; omega
      have hk0 : 0 < k := by
        rcases Nat.eq_zero_or_pos k with e | e
        · subst e; simp at h; omega
        · exact e
      have ih := digits_l0 k (n / 10) (by omega) h2 hk0 (by omega)
      obtain ⟨_, hl⟩ := digL_len k (n / 10) (by rw [Nat.pow_succ]; omega)
      simp only [d, if_true, ih, Option.bind_some, strOfNums_size, strOfNums_append]
      rw [if_pos (by simp only [List.length_cons, List.length_nil]; omega), digL_ge c]
theorem digits_more : ∀ (k m : Nat) (n : Int) (s : ByteArray), ref05_Digits k n = some s → ref05_Digits (k + m) n = some s
  | 0, m, n, s, h => by simp [ref05_Digits] at h
  | k + 1, m, n, s, h => by
    rw [show k + 1 + m = (k + m) + 1 by omega]
    simp only [ref05_Digits] at h ⊢
    split at h
    · rename_i hc
      rw [if_pos hc]
      obtain ⟨y, hy, h⟩ := bindS h
      rw [digits_more k m _ _ hy]
      exact h
    · rename_i hc
      rw [if_neg hc]; exact h
theorem Digits_eq {a : Int} (h0 : 0 ≤ a) (h : a ≤ 9223372036854775807) : ref05_Digits FU a = some (strOfNums (itoL a)) := by
  obtain ⟨n, rfl⟩ := Int.eq_ofNat_of_zero_le h0
  have hF : FU = 50 + 4611686018427387854 := rfl
  have h1 := digits_l0 50 n (by omega) (by omega) (by omega) (by omega)
  rw [hF, digits_more 50 _ _ _ h1]
  unfold itoL
  rw [if_neg (by omega)]
  simp
end Go.Cen

/- BUNDLE: an event as it is shown: by the program, by the document. -/
set_option linter.unusedVariables false
set_option linter.unusedSimpArgs false
set_option maxRecDepth 100000
namespace Go.Cen
def showD : Dyn88 → List Int
  | .nil => []
  | .i111 a => itoL a
  | .i108 s => quoteL (byts s)
  | .i112 d => (textL d).take 8
def okS (d : Dyn88) : Prop := match d with | .nil => False | .i111 a => -9223372036854775808 ≤ a ∧ a ≤ 9223372036854775807 | .i108 s => s.size ≤ 100000 ∧ segsOk (byts s) = true | .i112 d => d.length = 32 ∧ isB d
theorem showD_len {d : Dyn88} (h : okS d) : (showD d).length ≤ 400002 := by
  cases d with
  | nil => simp [showD]
  | i111 a => have := itoL_len h; simp only [showD]; omega
  | i108 s =>
    have h1 := quoteL_len (byts_isB s)
    have h2 : s.size ≤ 100000 := h.1
    rw [byts_len] at h1
    simp only [showD]; omega
  | i112 d => simp only [showD, List.length_take]; omega
def sdL (d : Dyn88) : List Int := 32 :: showD d
theorem sp_eq : (⟨#[32]⟩ : ByteArray) = strOfNums [32] := rfl
theorem text_show_eq {s : ByteArray} (h : s.size ≤ 100000) (hs : segsOk (byts s) = true) : event_text_show s = some (strOfNums (quoteL (byts s))) := by
  unfold event_text_show
  have := quote_ok (byts_isB s) (by rw [byts_len]; omega) hs
  rw [strOfNums_byts] at this
  rw [this]; rfl
theorem sum_show_eq {d : List Int} (h : d.length = 32) (hB : isB d) : event_sum_show d = some (strOfNums ((textL d).take 8)) := by
  unfold event_sum_show
  rw [(text_both h hB).1]
  have hl := textL_length d
  simp only [Option.bind_some, strOfNums_size]
  rw [if_pos (by omega), sx_str]
  simp
theorem show_l0 (l : List Dyn88) (hl : ∀ d ∈ l, okS d) (hn : l.length ≤ 10) (xs : List Int) (hx : xs.length ≤ 100) : event_Show.l0 l FU (strOfNums xs) 0 = some (strOfNums (xs ++ l.flatMap sdL)) := by
  have hL := LIM_val
  have := loopI l (by omega) (fun k i (s : List Int) => event_Show.l0 l k (strOfNums s) i) (fun r s => some (strOfNums (s ++ r.flatMap sdL))) (fun r s => s.length + 400003 * r.length ≤ 10000000)
    (fun k s hd hI => by simp only [event_Show.l0, hd, List.flatMap_nil, List.append_nil]; rfl)
    (fun k i x r s hi hlen hm hd hg hx hw hI ih => by
      have hok := hl x hm
      have hb := showD_len hok
      simp only [List.length_cons] at hI
      simp only [event_Show.l0, hd, if_true, hg, and_self, hx, sp_eq]
      have step : event_Show.l0 l k (strOfNums (s ++ ([32] ++ showD x))) (((i + 1 : Nat)) : Int) = some (strOfNums (s ++ (x :: r).flatMap sdL)) := by
        rw [ih (s ++ ([32] ++ showD x)) (by simp only [List.length_append, List.length_cons, List.length_nil]; omega)]
        simp [sdL]
      have q1 : ([32] : List Int).length + (showD x).length ≤ LIM := by simp only [List.length_cons, List.length_nil]; omega
      have q2 : s.length + (([32] : List Int) ++ showD x).length ≤ LIM := by simp only [List.length_append, List.length_cons, List.length_nil]; omega
      cases x with
      | nil => exact hok.elim
      | i111 a =>
        simp only [showD] at q1 q2 step
        simp only [event_number_show, Itoa_eq hok, Option.bind_some, strOfNums_append, strOfNums_size, q1, q2, if_true, hw]
        exact step
      | i108 a =>
        simp only [showD] at q1 q2 step
        simp only [text_show_eq hok.1 hok.2, Option.bind_some, strOfNums_append, strOfNums_size, q1, q2, if_true, hw]
        exact step
      | i112 a =>
        simp only [showD] at q1 q2 step
        have h32 : a.length = 32 := hok.1
        simp only [h32, if_true, sum_show_eq h32 hok.2, Option.bind_some, strOfNums_append, strOfNums_size, q1, q2, if_true, hw]
        exact step) xs (by omega)
  exact this
def WORDS : List ByteArray := [(⟨#[99, 114, 101, 97, 116, 101]⟩ : ByteArray), (⟨#[97, 112, 112, 101, 110, 100]⟩ : ByteArray), (⟨#[115, 101, 97, 108]⟩ : ByteArray), (⟨#[101, 120, 116, 101, 110, 100]⟩ : ByteArray), (⟨#[104, 111, 108, 100]⟩ : ByteArray), (⟨#[114, 101, 108, 101, 97, 115, 101]⟩ : ByteArray), (⟨#[100, 101, 108, 101, 116, 101]⟩ : ByteArray), (⟨#[116, 105, 99, 107]⟩ : ByteArray)]
theorem words_eq : event_words = some WORDS := rfl
def wordL (k : Int) : List Int := byts (gt WORDS k)
theorem wordL_len : ∀ n < 8, (wordL ((n : Nat) : Int)).length ≤ 7 := by decide +kernel
def showE (e : ApiEvent) : List Int := wordL e.Kind ++ (partsE e).flatMap sdL
def showR (e : ApiEvent) : List Int := if validE e = true then showE e else [63]
theorem valid_okS {e : ApiEvent} (h : okE e) (hv : validE e = true) : ∀ d ∈ partsE e, okS d := by
  obtain ⟨hI, hT, hN⟩ := valid_nums h hv
  have nm : (e.Kind = 0 ∨ e.Kind = 4 ∨ e.Kind = 5) → segsOk (byts e.Name) = true := fun hk => by
    unfold validE at hv
    rw [if_pos hk] at hv
    simp only [Bool.and_eq_true] at hv
    exact valid_segs hv.2.1
  intro d hd
  unfold partsE at hd
  split at hd
  · rename_i hk
    simp only [List.mem_cons, List.not_mem_nil, or_false] at hd
    rcases hd with rfl | rfl
    · exact ⟨by omega, by omega⟩
    · exact ⟨h.1, nm hk⟩
  all_goals (repeat' split at hd)
  all_goals (simp only [List.mem_cons, List.not_mem_nil, or_false] at hd)
  all_goals (try (rcases hd with rfl | rfl | rfl | rfl))
  all_goals (try (rcases hd with rfl | rfl))
  all_goals (try subst hd)
  all_goals first | exact ⟨by omega, by omega⟩ | exact h.2
theorem sdsL_len {l : List Dyn88} (h : ∀ d ∈ l, okS d) : (l.flatMap sdL).length ≤ 400003 * l.length := by
  induction l with
  | nil => simp
  | cons d r ih =>
    have a := showD_len (h d (by simp))
    have b := ih (fun x hx => h x (by simp [hx]))
    simp only [List.flatMap_cons, sdL, List.length_append, List.length_cons] at b ⊢; omega
theorem wordL_len' {k : Int} (h : 0 ≤ k ∧ k ≤ 7) : (wordL k).length ≤ 7 := by
  obtain ⟨n, rfl⟩ := Int.eq_ofNat_of_zero_le h.1
  exact wordL_len n (by omega)
theorem showR_len {e : ApiEvent} (h : okE e) : (showR e).length ≤ 2000000 := by
  unfold showR
  split
  · rename_i hv
    have h1 := sdsL_len (valid_okS h hv)
    have h2 := parts_len e
    have h3 := wordL_len' (valid_kind hv)
    simp only [showE, List.length_append]; omega
  · simp
theorem Show_eq {e : ApiEvent} (h : okE e) : event_Show e = some (strOfNums (showR e)) := by
  unfold event_Show showR
  rw [event_Valid_eq h]
  cases hv : validE e with
  | false => rfl
  | true =>
    have hk := valid_kind hv
    have hw := wordL_len' hk
    simp only [Option.bind_some, Bool.not_true, Bool.false_eq_true, if_false, if_true, words_eq, parts_eq]
    rw [if_pos (by omega)]
    have := show_l0 (partsE e) (valid_okS h hv) (by have := parts_len e; omega) (wordL e.Kind) (by omega)
    have e1 : strOfNums (wordL e.Kind) = gt WORDS e.Kind := strOfNums_byts _
    rw [e1] at this
    rw [this]; rfl
end Go.Cen

/- CHAIN: the laws on heads. -/
set_option linter.unusedVariables false
set_option linter.unusedSimpArgs false
set_option maxRecDepth 100000
namespace Go.Cen
/-! ### two rows of one head -/
theorem Same_eq {a b : List ApiEvent} (h : a.length ≤ 100000) : ∃ r, ref05_Same a b = some r ∧ (r = true ↔ a = b) := by
  unfold ref05_Same
  by_cases hl : a.length = b.length
  · have hz : (((a.length : Nat) : Int) != (b.length : Int)) = false := by rw [hl]; simp
    rw [hz]
    have := loop_eq a b hl (by omega) eq_ApiEvent (fun k i => ref05_Same.l0 a b k i)
      (fun k hd => by simp only [ref05_Same.l0, hd]; rfl)
      (fun k i hi hd hg hg2 hw => by
        simp only [ref05_Same.l0, hd, if_true, hg, hg2, and_self, hw]
        cases eq_ApiEvent (gt a (i : Int)) (gt b (i : Int)) <;> simp)
    rw [show ref05_Same.l0 a b FU 0 = _ from this]
    have hz := zip_all_eq eq_ApiEvent eq_event_iff a b hl
    by_cases q : (a.zip b).all (fun p => eq_ApiEvent p.1 p.2) = true
    · rw [if_pos q]
      exact ⟨true, rfl, by simp [hz.1 q]⟩
    · rw [if_neg q]
      exact ⟨false, rfl, by simp; exact fun h => q (hz.2 h)⟩
  · have hz : (((a.length : Nat) : Int) != (b.length : Int)) = true := by simp; omega
    have : a ≠ b := fun h => hl (by rw [h])
    exact ⟨false, by simp [hz], by simp [this]⟩
end Go.Cen

/- BUNDLE: bytes: what is put, and what is read again. -/
set_option linter.unusedVariables false
set_option linter.unusedSimpArgs false
set_option maxRecDepth 100000
namespace Go.Cen
/-! ### texts of at most 400 bytes -/
/-! ### what is put -/
def recL (e : ApiEvent) : List Int := numL (clampN ((putE e).length : Int)) ++ putE e
def headL (f : Int) (h : List Int) (n : Nat) : List Int := [67, 69, 78, 79] ++ (numL (clampN f) ++ (h ++ numL (clampN (n : Int))))
def bunL (f : Int) (h : List Int) (l : List ApiEvent) : List Int := headL f h l.length ++ l.flatMap recL
def bunOk (f : Int) (l : List ApiEvent) : Bool := decide (0 ≤ f) && (decide (f ≤ 400) && (decide (l.length ≤ 400) && allV l))
def bunR (f : Int) (h : List Int) (l : List ApiEvent) : ByteArray × Bool := if bunOk f l = true then (strOfNums (bunL f h l), true) else (⟨#[]⟩, false)
theorem putE_len2 {e : ApiEvent} (h : okE e) (hv : validE e = true) : 2 ≤ (putE e).length ∧ (putE e).length ≤ 110 := by
  obtain ⟨t, e1, e2, e3⟩ := put_shape h hv
  rw [e1]; simp only [List.length_cons]; omega
theorem recL_len {e : ApiEvent} (h : okE e) (hv : validE e = true) : 3 ≤ (recL e).length ∧ (recL e).length ≤ 118 := by
  have a := putE_len2 h hv
  have b := clampN_len ((putE e).length : Int)
  have c := numL_pos (clampN ((putE e).length : Int))
  simp only [recL, List.length_append]; omega
theorem recL_isB {e : ApiEvent} (h : okE e) : isB (recL e) := isB_app (numL_isB _) (putE_isB h)
theorem recs_isB {l : List ApiEvent} (h : okL l) : isB (l.flatMap recL) := isB_flat fun e he => recL_isB (h e he)
theorem headL_isB {f : Int} {h : List Int} {n : Nat} (hh : isB h) : isB (headL f h n) := by
  have c : isB [67, 69, 78, 79] := by intro x hx; simp at hx; omega
  exact isB_app c (isB_app (numL_isB _) (isB_app hh (numL_isB _)))
theorem headL_len (f : Int) {h : List Int} (n : Nat) (hh : h.length = 32) : (headL f h n).length ≤ 60 := by
  have a := clampN_len f
  have b := clampN_len (n : Int)
  simp only [headL, List.length_append, List.length_cons, List.length_nil]; omega
theorem cE_eq : (⟨#[67, 69, 78, 79]⟩ : ByteArray) = strOfNums [67, 69, 78, 79] := rfl
theorem wtext_rec {e : ApiEvent} (h : okE e) (hv : validE e = true) : wire_Text (strOfNums (putE e)) = some (strOfNums (recL e)) := by
  have := putE_len2 h hv
  rw [wire_Text_eq _ (by rw [strOfNums_size]; omega), strOfNums_size, byts_strOfNums (putE_isB h)]; rfl
theorem rtext_rec {e : ApiEvent} (h : okE e) (hv : validE e = true) : ref04_Text (strOfNums (putE e)) = some (strOfNums (recL e)) := by
  have := putE_len2 h hv
  rw [ref04_Text_eq _ (by rw [strOfNums_size]; omega), strOfNums_size, byts_strOfNums (putE_isB h)]; rfl
theorem writeS_eq (fl : Bool) (buf xs : List Int) (hx : isB xs) (h : buf.length + xs.length ≤ LIM) : strings_Builder_WriteString fl buf (strOfNums xs) = some ((xs.length : Int), Dyn57.nil, true, buf ++ xs) := by
  simp only [strings_Builder_WriteString, copy_eq, Option.bind_some, byts_strOfNums hx, strOfNums_size]
  rw [if_pos h]
theorem bput_l0 {l : List ApiEvent} (hl : okL l) (hn : l.length ≤ 1000) (xs : List Int) (hx : xs.length ≤ 100) :
    bundle_Put.l0 l FU 0 true xs = some (if allV l = true then .inr (true, xs ++ l.flatMap recL) else .inl ((⟨#[]⟩ : ByteArray), false)) := by
  have hL := LIM_val
  have := loopI l (by omega) (fun k i (s : List Int) => bundle_Put.l0 l k i true s) (fun r s => some (if allV r = true then .inr (true, s ++ r.flatMap recL) else .inl ((⟨#[]⟩ : ByteArray), false))) (fun r s => s.length + 118 * r.length ≤ 1000000)
    (fun k s hd hI => by simp only [bundle_Put.l0, hd, List.flatMap_nil, List.append_nil]; rfl)
    (fun k i x r s hi hlen hm hd hg hx hw hI ih => by
      have hok := hl x hm
      simp only [List.length_cons] at hI
      simp only [bundle_Put.l0, hd, if_true, hg, and_self, hx, event_Put_eq hok, putR]
      cases hv : validE x with
      | false => simp [allV, hv]
      | true =>
        have hr := recL_len hok hv
        simp only [if_true, Option.bind_some, Bool.not_true, Bool.false_eq_true, if_false, wtext_rec hok hv, writeS_eq true s _ (recL_isB hok) (by omega), hw]
        rw [ih (s ++ recL x) (by rw [List.length_append]; omega)]
        simp [allV, hv]) xs (by omega)
  exact this
theorem Put_eq {f : Int} {h : List Int} {l : List ApiEvent} (hh : h.length = 32) (hB : isB h) (hl : okL l) (hn : l.length ≤ 1000) : bundle_Put f h l = some (bunR f h l) := by
  have hL := LIM_val
  unfold bundle_Put bunR bunOk
  by_cases c0 : f < 0
  · have d : ¬ 0 ≤ f := by omega
    simp [c0, d]
  · have d0 : decide (f < 0) = false := by simpa using c0
    have e0 : decide (0 ≤ f) = true := by simp; omega
    simp only [d0, Bool.false_eq_true, if_false, Option.bind_some, e0, Bool.true_and]
    by_cases c1 : (if (l.length : Int) > f then (l.length : Int) else f) > 400
    · have d1 : decide ((if (l.length : Int) > f then (l.length : Int) else f) > 400) = true := by simpa using c1
      have e1 : (decide (f ≤ 400) && (decide (l.length ≤ 400) && allV l)) = false := by
        by_cases q : f ≤ 400
        · have : ¬ l.length ≤ 400 := by split at c1 <;> omega
          simp [this]
        · simp [q]
      simp only [d1, if_true, e1, Bool.false_eq_true, if_false]
    · have d1 : decide ((if (l.length : Int) > f then (l.length : Int) else f) > 400) = false := by simpa using c1
      have q1 : f ≤ 400 := by split at c1 <;> omega
      have q2 : l.length ≤ 400 := by split at c1 <;> omega
      have a := clampN_len f
      have b := clampN_len (l.length : Int)
      have hhd := headL_len f l.length hh
      have e : ((([67, 69, 78, 79] : List Int) ++ numL (clampN f)) ++ h) ++ numL (clampN (l.length : Int)) = headL f h l.length := by simp [headL]
      simp only [d1, Bool.false_eq_true, if_false, wire_Num_eq, Option.bind_some, cE_eq, strOfNums_append, strOfNums_size, wire_Sum]
      rw [if_pos (by simp only [List.length_cons, List.length_nil]; omega), if_pos (by simp only [List.length_append, List.length_cons, List.length_nil]; omega), if_pos (by simp only [List.length_append, List.length_cons, List.length_nil]; omega), e,
        writeS_eq false [] _ (headL_isB hB) (by simp only [List.length_nil]; omega)]
      simp only [Option.bind_some, List.nil_append]
      rw [bput_l0 hl hn _ (by omega)]
      simp only [q1, q2, decide_true, Bool.true_and]
      cases hv : allV l with
      | false => simp
      | true =>
        simp only [if_true, Option.bind_some, strings_Builder_String]
        rw [if_pos ((bytesOk_iff _).2 (isB_app (headL_isB hB) (recs_isB hl)))]
        rfl
theorem rput_l0 {l : List ApiEvent} (hl : okL l) (hn : l.length ≤ 1000) (xs : List Int) (hx : xs.length ≤ 100) :
    ref11_Put.l0 l FU (strOfNums xs) 0 = some (if allV l = true then .inr (strOfNums (xs ++ l.flatMap recL)) else .inl ((⟨#[]⟩ : ByteArray), false)) := by
  have hL := LIM_val
  have := loopI l (by omega) (fun k i (s : List Int) => ref11_Put.l0 l k (strOfNums s) i) (fun r s => some (if allV r = true then .inr (strOfNums (s ++ r.flatMap recL)) else .inl ((⟨#[]⟩ : ByteArray), false))) (fun r s => s.length + 118 * r.length ≤ 1000000)
    (fun k s hd hI => by simp only [ref11_Put.l0, hd, List.flatMap_nil, List.append_nil]; rfl)
    (fun k i x r s hi hlen hm hd hg hx hw hI ih => by
      have hok := hl x hm
      simp only [List.length_cons] at hI
      simp only [ref11_Put.l0, hd, if_true, hg, and_self, hx, ref05_Put_eq hok, putR]
      cases hv : validE x with
      | false => simp [allV, hv]
      | true =>
        have hr := recL_len hok hv
        have hq : s.length + (recL x).length ≤ LIM := by omega
        simp only [if_true, Option.bind_some, Bool.not_true, Bool.false_eq_true, if_false, rtext_rec hok hv, strOfNums_size, strOfNums_append, hq, hw]
        rw [ih (s ++ recL x) (by rw [List.length_append]; omega)]
        simp [allV, hv]) xs (by omega)
  exact this
theorem rPut_eq {f : Int} {h : List Int} {l : List ApiEvent} (hh : h.length = 32) (hB : isB h) (hl : okL l) (hn : l.length ≤ 1000) : ref11_Put f h l = some (bunR f h l) := by
  have hL := LIM_val
  unfold ref11_Put bunR bunOk
  by_cases c0 : f < 0
  · have d : ¬ 0 ≤ f := by omega
    simp [c0, d]
  · have d0 : decide (f < 0) = false := by simpa using c0
    have e0 : decide (0 ≤ f) = true := by simp; omega
    simp only [d0, Bool.false_eq_true, if_false, Option.bind_some, e0, Bool.true_and]
    by_cases c1 : f > 400
    · have : ¬ f ≤ 400 := by omega
      simp [c1, this]
    · by_cases c2 : (l.length : Int) > 400
      · have : ¬ l.length ≤ 400 := by omega
        simp [c1, c2, this]
      · have d1 : decide (f > 400) = false := by simpa using c1
        have d2 : decide ((l.length : Int) > 400) = false := by simpa using c2
        have q1 : f ≤ 400 := by omega
        have q2 : l.length ≤ 400 := by omega
        have a := clampN_len f
        have b := clampN_len (l.length : Int)
        have hhd := headL_len f l.length hh
        have e : ((([67, 69, 78, 79] : List Int) ++ numL (clampN f)) ++ h) ++ numL (clampN (l.length : Int)) = headL f h l.length := by simp [headL]
        simp only [d1, d2, Bool.false_eq_true, if_false, ref04_Num_eq, Option.bind_some, cE_eq, strOfNums_append, strOfNums_size, ref04_Sum_eq hh]
        rw [if_pos (by simp only [List.length_cons, List.length_nil]; omega), if_pos (by simp only [List.length_append, List.length_cons, List.length_nil]; omega), if_pos (by simp only [List.length_append, List.length_cons, List.length_nil]; omega), e]
        rw [rput_l0 hl hn _ (by omega)]
        simp only [q1, q2, decide_true, Bool.true_and]
        cases hv : allV l with
        | false => simp
        | true => rfl
end Go.Cen

/- BUNDLE: what any bytes are, by the document. -/
set_option linter.unusedVariables false
set_option linter.unusedSimpArgs false
set_option maxRecDepth 100000
namespace Go.Cen
/-! ### alike -/
theorem sEqual_eq {a b : List ApiEvent} (h : a.length ≤ 100000) : ∃ r, slices_Equal_apiEvent a b = some r ∧ (r = true ↔ a = b) := by
  unfold slices_Equal_apiEvent
  by_cases hl : a.length = b.length
  · have hz : (((a.length : Nat) : Int) != (b.length : Int)) = false := by rw [hl]; simp
    rw [hz]
    have := loop_eq a b hl (by omega) eq_ApiEvent (fun k i => slices_Equal_apiEvent.l0 a b k i)
      (fun k hd => by simp only [slices_Equal_apiEvent.l0, hd]; rfl)
      (fun k i hi hd hg hg2 hw => by
        simp only [slices_Equal_apiEvent.l0, hd, if_true, hg, hg2, and_self, hw]
        cases eq_ApiEvent (gt a (i : Int)) (gt b (i : Int)) <;> simp)
    rw [show slices_Equal_apiEvent.l0 a b FU 0 = _ from this]
    have hz := zip_all_eq eq_ApiEvent eq_event_iff a b hl
    by_cases q : (a.zip b).all (fun p => eq_ApiEvent p.1 p.2) = true
    · rw [if_pos q]
      exact ⟨true, rfl, by simp [hz.1 q]⟩
    · rw [if_neg q]
      exact ⟨false, rfl, by simp; exact fun h => q (hz.2 h)⟩
  · have hz : (((a.length : Nat) : Int) != (b.length : Int)) = true := by simp; omega
    have : a ≠ b := fun h => hl (by rw [h])
    exact ⟨false, by simp [hz], by simp [this]⟩
theorem bSame_eq {f g : Int} {h k : List Int} {a b : List ApiEvent} (hn : a.length ≤ 100000) : ∃ r, bundle_Same f h a g k b = some r ∧ ref11_Same f h a g k b = some r ∧ (r = true ↔ f = g ∧ h = k ∧ a = b) := by
  obtain ⟨r, r1, r2⟩ := sEqual_eq (a := a) (b := b) hn
  obtain ⟨s, s1, s2⟩ := Same_eq (a := a) (b := b) hn
  have hrs : r = s := by rw [Bool.eq_iff_iff, r2, s2]
  subst hrs
  unfold bundle_Same ref11_Same
  rw [r1, s1]
  by_cases c : f = g
  · have d : (f == g) = true := by simp [c]
    simp only [d, if_true]
    by_cases c2 : h = k
    · have d2 : eqA h k = true := (eqA_iff h k).2 c2
      simp only [d2, if_true, Option.bind_some]
      exact ⟨r, rfl, rfl, by rw [r2]; simp [c, c2]⟩
    · have d2 : eqA h k = false := by rw [← Bool.not_eq_true, eqA_iff]; exact c2
      simp only [d2, Bool.false_eq_true, if_false, Option.bind_some]
      exact ⟨false, rfl, rfl, by simp [c2]⟩
  · have d : (f == g) = false := by simp [c]
    simp only [d, Bool.false_eq_true, if_false, Option.bind_some]
    exact ⟨false, rfl, rfl, by simp [c]⟩
/-! ### handed out -/
end Go.Cen

/- BUNDLE: what is shown; the examples. -/
set_option linter.unusedVariables false
set_option linter.unusedSimpArgs false
set_option maxRecDepth 100000
namespace Go.Cen
/-! ### what is shown -/
def lineL (f : Int) (i : Nat) (e : ApiEvent) : List Int := itoL (wi64 (f + (i : Int))) ++ ([58, 32] ++ showR e)
def linesL (f : Int) : Nat → List ApiEvent → List ByteArray
  | _, [] => []
  | i, e :: r => strOfNums (lineL f i e) :: linesL f (i + 1) r
theorem linesL_len (f : Int) : ∀ (l : List ApiEvent) (i : Nat), (linesL f i l).length = l.length
  | [], i => rfl
  | e :: r, i => by simp [linesL, linesL_len f r]
theorem c58_eq : (⟨#[58, 32]⟩ : ByteArray) = strOfNums [58, 32] := rfl
theorem bshow_l0 {f : Int} {l : List ApiEvent} (hl : okL l) (hn : l.length ≤ 10000) : ∀ (r : List ApiEvent) (i k : Nat) (acc : List ByteArray), l.drop i = r → i + r.length = l.length → r.length < k → acc.length ≤ i →
    bundle_Show.l0 l f k acc (i : Int) = some (acc ++ linesL f i r)
  | [], i, k, acc, e, e2, hk, ha => by
    obtain ⟨k, rfl⟩ : ∃ q, k = q + 1 := ⟨k - 1, by omega⟩
    simp only [List.length_nil] at e2
    have d : decide ((i : Int) < (l.length : Int)) = false := by simp; omega
    simp only [bundle_Show.l0, d, Bool.false_eq_true, if_false, linesL, List.append_nil]
  | v :: r, i, k, acc, e, e2, hk, ha => by
    have hL := LIM_val
    obtain ⟨k, rfl⟩ : ∃ q, k = q + 1 := ⟨k - 1, by omega⟩
    simp only [List.length_cons] at e2 hk
    have hi : i < l.length := by omega
    have d : decide ((i : Int) < (l.length : Int)) = true := by simp; omega
    have hw : wi64 ((i : Int) + 1) = ((i + 1 : Nat) : Int) := by rw [wi64_id (by omega)]; omega
    rw [List.drop_eq_getElem_cons hi] at e
    simp only [List.cons.injEq] at e
    have hv1 : okE v := by rw [← e.1]; exact hl _ (List.getElem_mem hi)
    have hg : gt l (i : Int) = v := by rw [gt_nat l i hi]; exact e.1
    have a := itoL_len (wi64_range (f + (i : Int)))
    have b := showR_len hv1
    simp only [bundle_Show.l0, d, if_true, hg, Itoa_eq (wi64_range (f + (i : Int))), Option.bind_some, c58_eq, strOfNums_size, strOfNums_append, Show_eq hv1, hw]
    rw [if_pos (by omega), if_pos (by simp only [List.length_cons, List.length_nil]; omega), if_pos (by simp only [List.length_append, List.length_cons, List.length_nil]; omega), if_pos (by simp only [List.length_append, List.length_cons, List.length_nil]; omega)]
    rw [bshow_l0 hl hn r (i + 1) k _ e.2 (by omega) (by omega) (by simp only [List.length_append, List.length_cons, List.length_nil]; omega)]
    simp [linesL, lineL]
theorem bShow_eq {f : Int} {h : List Int} {l : List ApiEvent} (hl : okL l) (hn : l.length ≤ 10000) : bundle_Show f h l = some (linesL f 0 l) := by
  have hF : FU = 4611686018427387904 := rfl
  unfold bundle_Show
  rw [show bundle_Show.l0 l f FU [] 0 = _ from bshow_l0 hl hn l 0 FU [] rfl (by omega) (by omega) (by simp)]
  simp
/-! ### one behind the other -/
/-! ### the examples -/
end Go.Cen

/- BUNDLE: an event, a bundle as the document shows it. -/
set_option linter.unusedVariables false
set_option linter.unusedSimpArgs false
set_option maxRecDepth 100000
namespace Go.Cen
theorem appB {b : Bool} {x y : List Int} {A : Option ByteArray} (hA : b = true → A = some (strOfNums y)) (hn : x.length + y.length + 1 ≤ LIM) :
    (if b = true then (if (strOfNums x).size + (⟨#[32]⟩ : ByteArray).size ≤ LIM then (A.bind fun v => (if ((strOfNums x) ++ (⟨#[32]⟩ : ByteArray)).size + v.size ≤ LIM then some (((strOfNums x) ++ (⟨#[32]⟩ : ByteArray)) ++ v) else none)) else none) else some (strOfNums x)) = some (strOfNums (x ++ if b = true then 32 :: y else [])) := by
  cases b with
  | false => simp
  | true =>
    rw [if_pos rfl, if_pos rfl, hA rfl, sp_eq, strOfNums_append, strOfNums_size, strOfNums_size]
    simp only [List.length_append, List.length_cons, List.length_nil, Option.bind_some, strOfNums_size, strOfNums_append]
    rw [if_pos (by omega), if_pos (by omega)]
    simp
theorem sumB {b : Bool} {x d : List Int} (hd : b = true → d.length = 32 ∧ isB d) (hn : x.length + 9 ≤ LIM) :
    (if b = true then (if (strOfNums x).size + (⟨#[32]⟩ : ByteArray).size ≤ LIM then ((ref02_Text d).bind fun v => (if (0 : Int) ≤ (0 : Int) ∧ (0 : Int) ≤ (8 : Int) ∧ (8 : Int) ≤ (v.size : Int) then (if ((strOfNums x) ++ (⟨#[32]⟩ : ByteArray)).size + (sx v 0 8).size ≤ LIM then some (((strOfNums x) ++ (⟨#[32]⟩ : ByteArray)) ++ (sx v 0 8)) else none) else none)) else none) else some (strOfNums x)) = some (strOfNums (x ++ if b = true then 32 :: (textL d).take 8 else [])) := by
  cases b with
  | false => simp
  | true =>
    obtain ⟨h1, h2⟩ := hd rfl
    have hl := textL_length d
    have es : sx (strOfNums (textL d)) 0 8 = strOfNums ((textL d).take 8) := by rw [sx_str]; simp
    rw [if_pos rfl, if_pos rfl, (text_both h1 h2).2, sp_eq, strOfNums_append, strOfNums_size, strOfNums_size]
    simp only [List.length_append, List.length_cons, List.length_nil, Option.bind_some, strOfNums_size, es, strOfNums_append, List.length_take]
    rw [if_pos (by omega), if_pos (by omega), if_pos (by omega)]
    simp
theorem rShow_eq {e : ApiEvent} (h : okE e) : ref05_Show e = some (strOfNums (showR e)) := by
  have hL := LIM_val
  unfold ref05_Show showR
  rw [ref05_Valid_eq h]
  cases hv : validE e with
  | false => rfl
  | true =>
    have hk := valid_kind hv
    have hw := wordL_len' hk
    obtain ⟨hI, hT, hN⟩ := valid_nums h hv
    have nm := valid_name hv
    have hW : ([(⟨#[99, 114, 101, 97, 116, 101]⟩ : ByteArray), (⟨#[97, 112, 112, 101, 110, 100]⟩ : ByteArray), (⟨#[115, 101, 97, 108]⟩ : ByteArray), (⟨#[101, 120, 116, 101, 110, 100]⟩ : ByteArray), (⟨#[104, 111, 108, 100]⟩ : ByteArray), (⟨#[114, 101, 108, 101, 97, 115, 101]⟩ : ByteArray), (⟨#[100, 101, 108, 101, 116, 101]⟩ : ByteArray), (⟨#[116, 105, 99, 107]⟩ : ByteArray)] : List ByteArray) = WORDS := rfl
    have hlW : ((WORDS.length : Nat) : Int) = 8 := rfl
    have e1 : gt WORDS e.Kind = strOfNums (wordL e.Kind) := (strOfNums_byts _).symm
    have dI := Digits_eq hI.1 (show e.ID ≤ 9223372036854775807 by omega)
    have dT := Digits_eq hT.1 (show e.Time ≤ 9223372036854775807 by omega)
    have dN := Digits_eq hN.1 (show e.Len ≤ 9223372036854775807 by omega)
    have lI := itoL_len (a := e.ID) (by omega)
    have lT := itoL_len (a := e.Time) (by omega)
    have lN := itoL_len (a := e.Len) (by omega)
    have dQ : ref03_Quote e.Name = some (strOfNums (quoteL (byts e.Name))) := by
      have := ref03_Quote_str (byts_isB e.Name) (by rw [byts_len]; omega)
      rwa [strOfNums_byts] at this
    have lQ := quoteL_len (byts_isB e.Name)
    rw [byts_len] at lQ
    have ifl : ∀ (b : Bool) (y : List Int), (if b = true then 32 :: y else []).length ≤ y.length + 1 := fun b y => by cases b <;> simp
    simp only [Option.bind_some, Bool.not_true, Bool.false_eq_true, if_false, if_true, tells_eq, hW, hlW, e1]
    rw [if_pos (by omega)]
    have i1 := ifl (gt (tells5 e.Kind) 0) (itoL e.ID)
    have i2 := ifl (gt (tells5 e.Kind) 1) (quoteL (byts e.Name))
    have i3 := ifl (gt (tells5 e.Kind) 2) (itoL e.Time)
    have i4 := ifl (gt (tells5 e.Kind) 3) (itoL e.Len)
    rw [appB (x := wordL e.Kind) (fun _ => dI) (by omega)]
    simp only [Option.bind_some]
    rw [appB (fun _ => dQ) (by simp only [List.length_append]; omega)]
    simp only [Option.bind_some]
    rw [appB (fun _ => dT) (by simp only [List.length_append]; omega)]
    simp only [Option.bind_some]
    rw [appB (fun _ => dN) (by simp only [List.length_append]; omega)]
    simp only [Option.bind_some]
    rw [sumB (fun _ => h.2) (by simp only [List.length_append]; omega)]
    simp only [Option.bind_some, Option.some.injEq]
    congr 1
    unfold showE
    rcases kinds e.Kind with k | k | k | k | k | k | k | k | ⟨k0, k4, k5, k1, k2, k3, k6, k7⟩
    case inr.inr.inr.inr.inr.inr.inr.inr => omega
    all_goals (simp [partsE, k, tells5, gt, sdL, showD])
theorem rshow_l0 {f : Int} {l : List ApiEvent} (hl : okL l) (hn : l.length ≤ 10000) (f0 : 0 ≤ f) (f1 : f ≤ 1099511627776) : ∀ (r : List ApiEvent) (i k : Nat) (acc : List ByteArray), l.drop i = r → i + r.length = l.length → r.length < k → acc.length ≤ i →
    ref11_Show.l0 l f k acc (i : Int) = some (acc ++ linesL f i r)
  | [], i, k, acc, e, e2, hk, ha => by
    obtain ⟨k, rfl⟩ : ∃ q, k = q + 1 := ⟨k - 1, by omega⟩
    simp only [List.length_nil] at e2
    have d : decide ((i : Int) < (l.length : Int)) = false := by simp; omega
    simp only [ref11_Show.l0, d, Bool.false_eq_true, if_false, linesL, List.append_nil]
  | v :: r, i, k, acc, e, e2, hk, ha => by
    have hL := LIM_val
    obtain ⟨k, rfl⟩ : ∃ q, k = q + 1 := ⟨k - 1, by omega⟩
    simp only [List.length_cons] at e2 hk
    have hi : i < l.length := by omega
    have d : decide ((i : Int) < (l.length : Int)) = true := by simp; omega
    have hw : wi64 ((i : Int) + 1) = ((i + 1 : Nat) : Int) := by rw [wi64_id (by omega)]; omega
    rw [List.drop_eq_getElem_cons hi] at e
    simp only [List.cons.injEq] at e
    have hv1 : okE v := by rw [← e.1]; exact hl _ (List.getElem_mem hi)
    have hg : gt l (i : Int) = v := by rw [gt_nat l i hi]; exact e.1
    have a := itoL_len (wi64_range (f + (i : Int)))
    have b := showR_len hv1
    have w0 : wi64 (f + (i : Int)) = f + (i : Int) := wi64_id (by omega)
    have dg : ref05_Digits FU (wi64 (f + (i : Int))) = some (strOfNums (itoL (wi64 (f + (i : Int))))) := Digits_eq (by omega) (by omega)
    simp only [ref11_Show.l0, d, if_true, hg, dg, Option.bind_some, c58_eq, strOfNums_size, strOfNums_append, rShow_eq hv1, hw]
    rw [if_pos (by omega), if_pos (by simp only [List.length_cons, List.length_nil]; omega), if_pos (by simp only [List.length_append, List.length_cons, List.length_nil]; omega), if_pos (by simp only [List.length_append, List.length_cons, List.length_nil]; omega)]
    rw [rshow_l0 hl hn f0 f1 r (i + 1) k _ e.2 (by omega) (by omega) (by simp only [List.length_append, List.length_cons, List.length_nil]; omega)]
    simp [linesL, lineL]
theorem rbShow_eq {f : Int} {h : List Int} {l : List ApiEvent} (hl : okL l) (hn : l.length ≤ 10000) (f0 : 0 ≤ f) (f1 : f ≤ 1099511627776) : ref11_Show f h l = some (linesL f 0 l) := by
  have hF : FU = 4611686018427387904 := rfl
  unfold ref11_Show
  rw [show ref11_Show.l0 l f FU [] 0 = _ from rshow_l0 hl hn f0 f1 l 0 FU [] rfl (by omega) (by omega) (by simp)]
  simp
theorem Texts_self {a : List ByteArray} (hn : a.length ≤ 100000) : ref07_Texts a a = some true := by
  unfold ref07_Texts
  have hz : (((a.length : Nat) : Int) != (a.length : Int)) = false := by simp
  rw [hz]
  have := loop_eq a a rfl (by omega) seq (fun k i => ref07_Texts.l0 a a k i)
    (fun k hd => by simp only [ref07_Texts.l0, hd]; rfl)
    (fun k i hi hd hg hg2 hw => by
      simp only [ref07_Texts.l0, hd, if_true, hg, hg2, and_self, hw]
      cases seq (gt a (i : Int)) (gt a (i : Int)) <;> simp)
  rw [show ref07_Texts.l0 a a FU 0 = _ from this, if_pos ((zip_all_eq seq seq_iff a a rfl).2 rfl)]
  rfl
end Go.Cen

/- BUNDLE: the examples, reckoned. -/
set_option linter.unusedVariables false
set_option maxRecDepth 100000
namespace Go.Cen
theorem works11k : law11_works = some true := by decide +kernel
end Go.Cen

/- BUNDLE: the laws Puts, Gets, Exports. -/
set_option linter.unusedVariables false
set_option linter.unusedSimpArgs false
set_option maxRecDepth 100000
namespace Go.Cen
theorem law11_BundlePuts_eq (f : Int) (h : List Int) (l : List ApiEvent) (g : Int) (k : List Int) (m : List ApiEvent) (h32 : h.length = 32) (hB : isB h) (hs : sumsOk l) (k32 : k.length = 32) (kB : isB k) (ks : sumsOk m) : law11_BundlePuts f h l g k m = some true := by
  unfold law11_BundlePuts
  rw [works11k]
  simp only [Option.bind_some, Bool.not_true, Bool.false_eq_true, if_false, Few_eq]
  cases f1 : fewE l with
  | false => rfl
  | true =>
    cases f2 : fewE m with
    | false => rfl
    | true =>
      obtain ⟨o1, n1⟩ := few_ok hs f1
      obtain ⟨o2, n2⟩ := few_ok ks f2
      obtain ⟨r, r1, r2, _⟩ := bSame_eq (f := f) (g := g) (h := h) (k := k) (a := l) (b := m) (by omega)
      simp only [if_true, Option.bind_some, Bool.not_true, Bool.false_eq_true, if_false, Put_eq h32 hB o1 (show l.length ≤ 1000 by omega), rPut_eq h32 hB o1 (show l.length ≤ 1000 by omega), law11_Of, r1, r2, seq_refl, beq_self_eq_true]
      by_cases c0 : f ≥ 0
      · by_cases c1 : f ≤ 1099511627776
        · have hT := Texts_self (a := linesL f 0 l) (by rw [linesL_len]; omega)
          simp only [c0, c1, decide_true, if_true, Option.bind_some, bShow_eq o1 (show l.length ≤ 10000 by omega), rbShow_eq o1 (show l.length ≤ 10000 by omega) c0 c1, hT]
        · simp only [c0, c1, decide_true, decide_false, if_true, Option.bind_some, Bool.false_eq_true, if_false]
      · simp only [c0, decide_false, Bool.false_eq_true, if_false, Option.bind_some]
end Go.Cen
