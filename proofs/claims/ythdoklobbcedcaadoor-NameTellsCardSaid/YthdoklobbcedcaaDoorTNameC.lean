/- NAME: reading back, whole; the laws of showing. -/
import Derived.Test.YthdoklobbcedcaaDoorTNameB
set_option linter.unusedVariables false
set_option linter.unusedSimpArgs false
namespace Go.Cen
theorem str34 : (⟨#[34]⟩ : ByteArray) = strOfNums [34] := rfl
theorem prefix34 {s : List Int} (h : isB s) : strings_CutPrefix (strOfNums s) (⟨#[34]⟩ : ByteArray) = some (if s.take 1 = [34] then (strOfNums (s.drop 1), true) else (strOfNums s, false)) := by
  rw [str34]
  unfold strings_CutPrefix stringslite_CutPrefix stringslite_HasPrefix
  simp only [strOfNums_size, List.length_cons, List.length_nil]
  by_cases hl : 1 ≤ s.length
  · have d : decide ((s.length : Int) ≥ ((0 + 1 : Nat) : Int)) = true := by simp; omega
    have hs : sx (strOfNums s) 0 ((0 + 1 : Nat) : Int) = strOfNums (s.take 1) := by rw [sx_str]; simp
    have hd : sx (strOfNums s) ((0 + 1 : Nat) : Int) (s.length : Int) = strOfNums (s.drop 1) := by rw [sx_str]; simp
    simp only [d, if_true, hs, hd, seq_str (isB_take h 1) isB_34]
    rw [if_pos (by omega)]
    simp only [Option.bind_some]
    by_cases hp : s.take 1 = [34]
    · simp only [hp, decide_true, Bool.not_true, Bool.false_eq_true, if_false, if_true]
      rw [if_pos (by omega)]; rfl
    · simp only [hp, decide_false, Bool.not_false, if_true, if_false]; rfl
  · have : s = [] := List.length_eq_zero_iff.1 (by omega)
    subst this
    rfl
theorem suffix34 {s : List Int} (h : isB s) (hn : s.length ≤ 1000000000) : strings_CutSuffix (strOfNums s) (⟨#[34]⟩ : ByteArray) = some (if s.drop (s.length - 1) = [34] then (strOfNums (s.take (s.length - 1)), true) else (strOfNums s, false)) := by
  rw [str34]
  unfold strings_CutSuffix stringslite_CutSuffix stringslite_HasSuffix
  simp only [strOfNums_size, List.length_cons, List.length_nil]
  by_cases hl : 1 ≤ s.length
  · have d : decide ((s.length : Int) ≥ ((0 + 1 : Nat) : Int)) = true := by simp; omega
    have hw : wi64 ((s.length : Int) - ((0 + 1 : Nat) : Int)) = ((s.length - 1 : Nat) : Int) := by rw [wi64_id (by omega)]; omega
    have hs : sx (strOfNums s) ((s.length - 1 : Nat) : Int) (s.length : Int) = strOfNums (s.drop (s.length - 1)) := by rw [sx_str]; simp
    have hd : sx (strOfNums s) 0 ((s.length - 1 : Nat) : Int) = strOfNums (s.take (s.length - 1)) := by rw [sx_str]; simp
    simp only [d, if_true, hw, hs, hd, seq_str (isB_drop h _) isB_34]
    rw [if_pos (by omega)]
    simp only [Option.bind_some]
    by_cases hp : s.drop (s.length - 1) = [34]
    · simp only [hp, decide_true, Bool.not_true, Bool.false_eq_true, if_false, if_true]
      rw [if_pos (by omega)]; rfl
    · simp only [hp, decide_false, Bool.not_false, if_true, if_false]; rfl
  · have : s = [] := List.length_eq_zero_iff.1 (by omega)
    subst this
    rfl
/-- what lies between the marks -/
def midL (s : List Int) : Option (List Int) := if s.take 1 = [34] ∧ (s.drop 1).drop ((s.drop 1).length - 1) = [34] then some ((s.drop 1).take ((s.drop 1).length - 1)) else none
def noneU : ByteArray × Bool := ((⟨#[]⟩ : ByteArray), false)
theorem unq_str {s : List Int} (h : isB s) (hn : s.length ≤ 1000000) : name_Unquote (strOfNums s) = some (match midL s with
    | some m => match unesc m with
      | some o => if quoteL o = s then (strOfNums o, true) else noneU
      | none => noneU
    | none => noneU) := by
  unfold name_Unquote midL
  rw [prefix34 h]
  simp only [Option.bind_some]
  by_cases h1 : s.take 1 = [34]
  · simp only [h1, if_true, true_and]
    have h1B := isB_drop h 1
    rw [suffix34 h1B (by simp; omega)]
    simp only [Option.bind_some, Bool.not_true, Bool.false_eq_true, if_false]
    by_cases h2 : (s.drop 1).drop ((s.drop 1).length - 1) = [34]
    · simp only [h2, if_true, Bool.not_true, Bool.false_eq_true, if_false, Option.bind_some]
      obtain ⟨m, hm⟩ : ∃ m, m = (s.drop 1).take ((s.drop 1).length - 1) := ⟨_, rfl⟩
      have hmB : isB m := by rw [hm]; exact isB_take h1B _
      have hml : m.length ≤ s.length := by rw [hm]; simp; omega
      rw [← hm, unq_l0 m.length FU m [] (Nat.le_refl _) (by have : FU = 4611686018427387904 := rfl
                                                            omega) hmB (by simp; omega)]
      cases hu : unesc m with
      | none => rfl
      | some o =>
        obtain ⟨oB, ol⟩ := unesc_ok m.length m o (Nat.le_refl _) hmB hu
        simp only [Option.bind_some, List.nil_append]
        rw [name_Quote_str oB (by omega)]
        simp only [Option.bind_some, seq_str (quoteL_isB oB) h]
        by_cases hq : quoteL o = s
        · simp only [hq, decide_true, Bool.not_true, Bool.false_eq_true, if_false, if_true]
        · simp only [hq, decide_false, Bool.not_false, if_true, if_false]; rfl
    · simp only [h2, if_false, Bool.not_false, if_true, Option.bind_some]
      rfl
  · simp only [h1, if_false, Bool.not_false, false_and, if_true]
    rw [suffix34 h (by omega)]
    simp only [Option.bind_some]
    rfl
theorem mid_quote (u : List Int) : midL (quoteL u) = some (body u) := by
  have h1 : (quoteL u).take 1 = [34] := by simp [quoteL]
  have h2 : (quoteL u).drop 1 = body u ++ [34] := by simp [quoteL]
  unfold midL
  rw [h1, h2]
  have h3 : (body u ++ [34]).length - 1 = (body u).length := by simp
  rw [h3, List.drop_left, List.take_left]
  simp
theorem unq_yes {u : List Int} (h : isB u) (hn : u.length ≤ 100000) : name_Unquote (strOfNums (quoteL u)) = some (strOfNums u, true) := by
  have := quoteL_len h
  rw [unq_str (quoteL_isB h) (by omega), mid_quote]
  simp only [body_unesc u h, if_true]
theorem unq_no {s : List Int} (h : isB s) (hn : s.length ≤ 1000000) (hq : ∀ u, isB u → u.length ≤ s.length → quoteL u ≠ s) : name_Unquote (strOfNums s) = some noneU := by
  rw [unq_str h hn]
  cases hm : midL s with
  | none => rfl
  | some m =>
    simp only
    cases hu : unesc m with
    | none => rfl
    | some o =>
      simp only
      have hms : m = (s.drop 1).take ((s.drop 1).length - 1) := by
        unfold midL at hm
        split at hm
        · exact (Option.some.inj hm).symm
        · cases hm
      have hmB : isB m := by rw [hms]; exact isB_take (isB_drop h 1) _
      have hml : m.length ≤ s.length := by rw [hms]; simp; omega
      obtain ⟨oB, ol⟩ := unesc_ok m.length m o (Nat.le_refl _) hmB hu
      rw [if_neg (hq o oB (by omega))]
/-- either it is shown of one text, or of none -/
theorem unq_cases {s : List Int} (h : isB s) (hn : s.length ≤ 100000) : (∃ u, isB u ∧ u.length ≤ s.length ∧ s = quoteL u ∧ name_Unquote (strOfNums s) = some (strOfNums u, true)) ∨ ((∀ u, isB u → u.length ≤ s.length → quoteL u ≠ s) ∧ name_Unquote (strOfNums s) = some noneU) := by
  by_cases hq : ∃ u, isB u ∧ u.length ≤ s.length ∧ quoteL u = s
  · obtain ⟨u, a, b, c⟩ := hq
    exact .inl ⟨u, a, b, c.symm, by rw [← c]; exact unq_yes a (by omega)⟩
  · have hq' : ∀ u, isB u → u.length ≤ s.length → quoteL u ≠ s := fun u a b c => hq ⟨u, a, b, c⟩
    exact .inr ⟨hq', unq_no h (by omega) hq'⟩
theorem works03 : law03_works = some true := by decide +kernel
theorem str_eq (s : ByteArray) : ∃ l, isB l ∧ s = strOfNums l ∧ l.length = s.size := ⟨byts s, byts_isB s, (strOfNums_byts s).symm, byts_len s⟩
theorem seq_self (s : ByteArray) : seq s s = true := (seq_iff s s).2 rfl
theorem quote_ends (u : List Int) : ∃ m, quoteL u = 34 :: m ∧ (quoteL u).length ≥ 2 := ⟨body u ++ [34], by simp [quoteL], by simp [quoteL]⟩
theorem quote_last (v : List Int) : (quoteL v).getLast? = some 34 := by rw [show quoteL v = ([34] ++ body v) ++ [34] from rfl, List.getLast?_concat]
end Go.Cen
