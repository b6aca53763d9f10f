/- NAME: a text's runes, one by one. -/
import Derived.Test.YtjbofffabkimeaaAUtf8D
set_option linter.unusedVariables false
set_option linter.unusedSimpArgs false
namespace Go.Cen
open Go.Lib (decodeN firstT accLo accHi slowN slow_eq)
theorem drop_lt {l : List Int} (h : ¬ l = []) : (l.drop (dec l).2).length < l.length := by
  have := dec_w l h
  have := List.length_pos_iff.2 h
  rw [List.length_drop]; omega
theorem seg_ind {P : List Int → Prop} (h0 : P []) (h1 : ∀ l, l ≠ [] → isB l → P (l.drop (dec l).2) → P l) : ∀ l, isB l → P l := by
  have key : ∀ (n : Nat) (l : List Int), l.length ≤ n → isB l → P l := by
    intro n
    induction n with
    | zero => intro l hl _; rw [List.length_eq_zero_iff.1 (by omega : l.length = 0)]; exact h0
    | succ n ih =>
      intro l hl hB
      by_cases h : l = []
      · rw [h]; exact h0
      · have := drop_lt h
        exact h1 l h hB (ih _ (by omega) (isB_drop hB _))
  exact fun l => key l.length l (Nat.le_refl _)
/-- a rune, a broken byte behind all others -/
def runeI (l : List Int) : Int := if bad l then 1114112 + (bn l 0 : Int) else ((dec l).1 : Int)
def runesL (l : List Int) : List Int := if h : l = [] then [] else runeI l :: runesL (l.drop (dec l).2)
termination_by l.length
decreasing_by exact drop_lt h
theorem runesL_nil : runesL [] = [] := by rw [runesL]; simp
theorem runesL_cons {l : List Int} (h : l ≠ []) : runesL l = runeI l :: runesL (l.drop (dec l).2) := by rw [runesL]; simp [h]
def cnt (l : List Int) : Nat := (runesL l).length
theorem cnt_nil : cnt [] = 0 := by rw [cnt, runesL_nil]; rfl
theorem cnt_cons {l : List Int} (h : l ≠ []) : cnt l = cnt (l.drop (dec l).2) + 1 := by rw [cnt, runesL_cons h]; rfl
/-- a loop over a text's runes -/
theorem loopR {σ β : Type} (l : List Int) (hB : isB l) (hn : l.length ≤ 2305843009213693952) (L : Nat → Nat → σ → β) (G : List Int → σ → β) (I : List Int → σ → Prop)
    (h0 : ∀ k s, I [] s → L (k + 1) l.length s = G [] s)
    (h1 : ∀ k (i : Nat) s, i < l.length → l.drop i ≠ [] → isB (l.drop i) → runeAt (strOfNums l) i = ((dec (l.drop i)).1 : Int) → runeW (strOfNums l) i = (dec (l.drop i)).2 → True → bt (strOfNums l) (i : Int) = (bn (l.drop i) 0 : Int) → I (l.drop i) s →
      (∀ s', I ((l.drop i).drop (dec (l.drop i)).2) s' → L k (i + (dec (l.drop i)).2) s' = G ((l.drop i).drop (dec (l.drop i)).2) s') → L (k + 1) i s = G (l.drop i) s) :
    ∀ s, I l s → L FU 0 s = G l s := by
  have key : ∀ (d i k : Nat), l.length - i ≤ d → i ≤ l.length → d < k → ∀ s, I (l.drop i) s → L k i s = G (l.drop i) s := by
    intro d
    induction d with
    | zero =>
      intro i k hd hi hk s hs
      obtain ⟨k, rfl⟩ : ∃ m, k = m + 1 := ⟨k - 1, by omega⟩
      have : i = l.length := by omega
      subst this
      rw [List.drop_length] at hs ⊢
      exact h0 k s hs
    | succ d ih =>
      intro i k hd hi hk s hs
      obtain ⟨k, rfl⟩ : ∃ m, k = m + 1 := ⟨k - 1, by omega⟩
      by_cases he : i = l.length
      · subst he
        rw [List.drop_length] at hs ⊢
        exact h0 k s hs
      · have hne : l.drop i ≠ [] := by intro e; have := List.drop_eq_nil_iff.1 e; omega
        have hw := dec_w _ hne
        rw [List.length_drop] at hw
        have hr := runeAt_str hB hi
        have hbr : True := trivial
        refine h1 k i s (by omega) hne (isB_drop hB i) hr (runeW_str hB hi) hbr (by rw [bt_bn hB, bn_drop]; rfl) hs (fun s' hs' => ?_)
        rw [List.drop_drop] at hs' ⊢
        exact ih (i + (dec (l.drop i)).2) k (by omega) (by omega) (by omega) s' hs'
  intro s hs
  have hF : FU = 4611686018427387904 := rfl
  have := key l.length 0 FU (by omega) (by omega) (by omega) s (by simpa using hs)
  simpa using this
theorem name_Count_str {l : List Int} (hB : isB l) (hn : l.length ≤ 1000000) : name_Count (strOfNums l) = some (cnt l : Int) := by
  unfold name_Count
  have := loopR l hB (by omega) (fun k i (s : Nat) => name_Count.l0 (strOfNums l) k (s : Int) i) (fun r s => some ((s + cnt r : Nat) : Int)) (fun r s => s + r.length ≤ 1000000)
    (fun k s hs => by
      simp only [name_Count.l0, strOfNums_size, Nat.lt_irrefl, if_false, cnt_nil, Nat.add_zero])
    (fun k i s hi hne hB' hr hw hbr hbt hI ih => by
      have hlt := drop_lt hne
      have hw1 : wi64 ((s : Int) + 1) = ((s + 1 : Nat) : Int) := by rw [wi64_id (by omega)]; omega
      simp only [name_Count.l0, strOfNums_size, hi, if_true, hw, hw1]
      rw [ih (s + 1) (by omega), cnt_cons hne]
      congr 2; omega) 0 (by omega)
  rw [show name_Count.l0 (strOfNums l) FU 0 0 = _ from this]
  simp
/-! ### a text as it is shown -/
def hexd (n : Nat) : Int := bt (⟨#[48, 49, 50, 51, 52, 53, 54, 55, 56, 57, 97, 98, 99, 100, 101, 102]⟩ : ByteArray) (n : Int)
def shown (l : List Int) : List Int :=
  if (dec l).1 = 34 ∨ (dec l).1 = 92 then [92, ((dec l).1 : Int)] else if (dec l).1 = 10 then [92, 110]
  else if (dec l).1 < 32 ∨ (dec l).1 = 127 ∨ bad l then [92, 120, hexd (bn l 0 / 16), hexd (bn l 0 % 16)] else l.take (dec l).2
def body (l : List Int) : List Int := if h : l = [] then [] else shown l ++ body (l.drop (dec l).2)
termination_by l.length
decreasing_by exact drop_lt h
theorem body_nil : body [] = [] := by rw [body]; simp
theorem body_cons {l : List Int} (h : l ≠ []) : body l = shown l ++ body (l.drop (dec l).2) := by rw [body]; simp [h]
def quoteL (l : List Int) : List Int := [34] ++ body l ++ [34]
theorem shown_len (l : List Int) (hl : l ≠ []) : (shown l).length ≤ 4 := by
  have := dec_w l hl
  unfold shown
  repeat' split
  all_goals (simp; try omega)
theorem hexd_b (n : Nat) : 0 ≤ hexd n ∧ hexd n < 256 := by
  unfold hexd
  rw [bt_eq]
  exact gt_all (p := fun x => 0 ≤ x ∧ x < 256) (byts_isB _) ⟨by decide, by decide⟩ _
theorem shown_isB {l : List Int} (h : isB l) : isB (shown l) := by
  unfold shown
  split
  · rename_i hh
    intro x hx
    simp only [List.mem_cons, List.not_mem_nil, or_false] at hx
    rcases hx with rfl | rfl
    · omega
    · rcases hh with e | e <;> rw [e] <;> decide
  · split
    · intro x hx
      simp only [List.mem_cons, List.not_mem_nil, or_false] at hx
      rcases hx with rfl | rfl <;> decide
    · split
      · intro x hx
        simp only [List.mem_cons, List.not_mem_nil, or_false] at hx
        rcases hx with rfl | rfl | rfl | rfl
        · decide
        · decide
        · exact hexd_b _
        · exact hexd_b _
      · exact isB_take h _
theorem body_isB : ∀ l, isB l → isB (body l) := by
  refine seg_ind (by rw [body_nil]; exact isB_nil) (fun l hl hB ih => ?_)
  rw [body_cons hl]
  exact isB_app (shown_isB hB) ih
theorem body_len : ∀ l, isB l → (body l).length ≤ 4 * l.length := by
  refine seg_ind (by rw [body_nil]; exact Nat.le_refl _) (fun l hl hB ih => ?_)
  have a := shown_len l hl
  have b := drop_lt hl
  rw [body_cons hl, List.length_append]; omega
theorem isB_34 : isB [34] := by intro x hx; simp at hx; omega
theorem quoteL_isB {l : List Int} (h : isB l) : isB (quoteL l) := isB_app (isB_app isB_34 (body_isB l h)) isB_34
theorem quoteL_len {l : List Int} (h : isB l) : (quoteL l).length ≤ 4 * l.length + 2 := by
  have := body_len l h
  simp [quoteL]; omega
theorem copy_eq (fl : Bool) (buf : List Int) : strings_Builder_copyCheck fl buf = some (true, buf) := by cases fl <;> rfl
theorem writeByte_eq (fl : Bool) (buf : List Int) (x : Int) (h : buf.length + 1 ≤ LIM) : strings_Builder_WriteByte fl buf x = some (Dyn115.nil, true, buf ++ [x]) := by
  simp only [strings_Builder_WriteByte, copy_eq, Option.bind_some]
  rw [if_pos (by simpa using h)]
theorem writeRune_eq (fl : Bool) (buf : List Int) (v : Nat) (hv : v ≤ 1114111) (hs : v < 55296 ∨ 57344 ≤ v) (h : buf.length + 4 ≤ LIM) :
    strings_Builder_WriteRune fl buf (v : Int) = some (wi64 (((buf ++ encI v).length : Int) - (buf.length : Int)), Dyn115.nil, true, buf ++ encI v) := by
  simp only [strings_Builder_WriteRune, copy_eq, Option.bind_some, appendRune_eq buf v hv hs h]
end Go.Cen
