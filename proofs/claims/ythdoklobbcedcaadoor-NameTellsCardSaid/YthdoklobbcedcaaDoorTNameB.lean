/- NAME: what is shown is read back. -/
import Derived.Test.YthdoklobbcedcaaDoorTNameA
set_option linter.unusedVariables false
set_option linter.unusedSimpArgs false
namespace Go.Cen
def digs : ByteArray := ⟨#[48, 49, 50, 51, 52, 53, 54, 55, 56, 57, 97, 98, 99, 100, 101, 102]⟩
def hexv (c : Int) : Int := idxByte digs c
/-- what is shown behind a backslash -/
def escL : List Int → Option (Int × Nat)
  | [] => none
  | c :: r => if c = 110 then some (10, 1) else if c = 120 then match r with
      | a :: b :: _ => if hexv a < 0 ∨ hexv b < 0 then none else some (wu8 (bOr .i64 (bShl .i64 (hexv a) 4) (hexv b)), 3)
      | _ => none
    else some (c, 1)
theorem escL_le {r : List Int} {b : Int} {n : Nat} (h : escL r = some (b, n)) : 1 ≤ n ∧ n ≤ r.length := by
  match r with
  | [] => cases h
  | [c] =>
    simp only [escL] at h
    split at h
    · cases h; simp
    · split at h
      · cases h
      · cases h; simp
  | [c, d] =>
    simp only [escL] at h
    split at h
    · cases h; simp
    · split at h
      · cases h
      · cases h; simp
  | c :: d :: e :: t =>
    simp only [escL] at h
    split at h
    · cases h; simp
    · split at h
      · split at h
        · cases h
        · cases h; simp
      · cases h; simp
theorem escL_b {r : List Int} {b : Int} {n : Nat} (hB : isB r) (h : escL r = some (b, n)) : 0 ≤ b ∧ b < 256 := by
  match r with
  | [] => cases h
  | c :: t =>
    have hc := hB c (by simp)
    simp only [escL] at h
    split at h
    · cases h; omega
    · split at h
      · split at h
        · split at h
          · cases h
          · cases h
            rw [wu8_eq]; omega
        · cases h
      · cases h; exact hc
def unesc (l : List Int) : Option (List Int) :=
  match l with
  | [] => some []
  | c :: r => if c = 92 then match h : escL r with
      | none => none
      | some (b, n) => (unesc (r.drop n)).map (b :: ·)
    else (unesc r).map (c :: ·)
termination_by l.length
decreasing_by
  · simp
    omega
  · simp
theorem unesc_nil : unesc [] = some [] := by rw [unesc]
theorem unesc_plain {c : Int} (h : c ≠ 92) (r : List Int) : unesc (c :: r) = (unesc r).map (c :: ·) := by rw [unesc]; simp [h]
theorem unesc_esc {r : List Int} {b : Int} {n : Nat} (h : escL r = some (b, n)) : unesc (92 :: r) = (unesc (r.drop n)).map (b :: ·) := by
  rw [unesc]
  simp only [if_true]
  split
  · rename_i h2; rw [h] at h2; cases h2
  · rename_i h2; rw [h] at h2; cases h2; rfl
theorem unesc_none {r : List Int} (h : escL r = none) : unesc (92 :: r) = none := by
  rw [unesc]
  simp only [if_true]
  split
  · rfl
  · rename_i h2; rw [h] at h2; cases h2
theorem hexv_hexd : ∀ k < 16, hexv (hexd k) = (k : Int) := by decide +kernel
theorem byte_hex : ∀ b < 256, wu8 (bOr .i64 (bShl .i64 ((b / 16 : Nat) : Int) 4) ((b % 16 : Nat) : Int)) = (b : Int) := by decide +kernel
theorem esc_hex {b : Nat} (hb : b < 256) (t : List Int) : escL (120 :: hexd (b / 16) :: hexd (b % 16) :: t) = some ((b : Int), 3) := by
  have h1 := hexv_hexd (b / 16) (by omega)
  have h2 := hexv_hexd (b % 16) (by omega)
  have h3 := byte_hex b hb
  simp only [escL, h1, h2]
  rw [if_neg (by decide), if_pos trivial, if_neg (by omega), h3]
/-- bytes that are none of the marks' own are read as they are -/
theorem unesc_run : ∀ (xs t : List Int), (∀ x ∈ xs, x ≠ 92) → unesc (xs ++ t) = (unesc t).map (xs ++ ·)
  | [], t, _ => by rw [List.nil_append]; cases unesc t <;> rfl
  | x :: xs, t, h => by
    rw [List.cons_append, unesc_plain (h x (by simp)), unesc_run xs t (fun y hy => h y (by simp [hy]))]
    cases unesc t <;> rfl
theorem take_high {l : List Int} (h : isB l) (hl : l ≠ []) (hb : ¬ bad l) (h2 : 2 ≤ (dec l).2) : ∀ x ∈ l.take (dec l).2, 128 ≤ x := by
  rcases good_cases h hl hb with ⟨a, e⟩ | ⟨a1, a2, a3, a4, a5, e⟩ | ⟨a1, a2, a3, a4, a5, a6, a7, a8, a9, e⟩ | ⟨a1, a2, a3, a4, a5, a6, a7, a8, a9, a10, a11, e⟩
  · rw [e] at h2; simp at h2
  · rw [e]; simp only; rw [take2 h a3]
    intro x hx
    simp only [List.mem_cons, List.not_mem_nil, or_false] at hx
    rcases hx with rfl | rfl <;> omega
  · rw [e]; simp only; rw [take3 h a3]
    intro x hx
    simp only [List.mem_cons, List.not_mem_nil, or_false] at hx
    rcases hx with rfl | rfl | rfl <;> omega
  · rw [e]; simp only; rw [take4 h a3]
    intro x hx
    simp only [List.mem_cons, List.not_mem_nil, or_false] at hx
    rcases hx with rfl | rfl | rfl | rfl <;> omega
/-- small runes are one byte -/
theorem dec_one {l : List Int} (h : isB l) (hl : l ≠ []) (hs : (dec l).1 < 128) : (dec l).1 = bn l 0 ∧ (dec l).2 = 1 := by
  rcases dec_cases l hl h with ⟨a, e⟩ | ⟨_, e⟩ | ⟨_, a, _⟩
  · rw [e]; exact ⟨rfl, rfl⟩
  · have := bad_w e; rw [this] at hs; simp at hs
  · omega
theorem shown_unesc {l : List Int} (h : isB l) (hl : l ≠ []) (t : List Int) : unesc (shown l ++ t) = (unesc t).map (l.take (dec l).2 ++ ·) := by
  have hlen := List.length_pos_iff.2 hl
  have b0 := bn_lt h 0
  unfold shown
  by_cases c1 : (dec l).1 = 34 ∨ (dec l).1 = 92
  · rw [if_pos c1]
    obtain ⟨e1, e2⟩ := dec_one h hl (by omega)
    have he : escL ((((dec l).1 : Nat) : Int) :: t) = some ((((dec l).1 : Nat) : Int), 1) := by
      simp only [escL]
      rw [if_neg (by omega), if_neg (by omega)]
    show unesc (92 :: (((dec l).1 : Nat) : Int) :: t) = _
    rw [unesc_esc he, e2, take1 h hlen, e1]
    rfl
  · rw [if_neg c1]
    by_cases c2 : (dec l).1 = 10
    · rw [if_pos c2]
      obtain ⟨e1, e2⟩ := dec_one h hl (by omega)
      have he : escL (110 :: t) = some (10, 1) := by simp [escL]
      show unesc (92 :: 110 :: t) = _
      rw [unesc_esc he, e2, take1 h hlen, ← e1, c2]
      rfl
    · rw [if_neg c2]
      by_cases c3 : (dec l).1 < 32 ∨ (dec l).1 = 127 ∨ bad l
      · rw [if_pos c3]
        have e2 : (dec l).2 = 1 := by
          rcases c3 with c | c | c
          · exact (dec_one h hl (by omega)).2
          · exact (dec_one h hl (by omega)).2
          · rw [bad_w c]
        show unesc (92 :: 120 :: hexd (bn l 0 / 16) :: hexd (bn l 0 % 16) :: t) = _
        rw [unesc_esc (esc_hex b0 t), e2, take1 h hlen]
        rfl
      · rw [if_neg c3]
        have hnb : ¬ bad l := fun h => c3 (.inr (.inr h))
        refine unesc_run _ _ (fun x hx => ?_)
        by_cases hw : 2 ≤ (dec l).2
        · have := take_high h hl hnb hw x hx; omega
        · have hw1 := dec_w l hl
          have e2 : (dec l).2 = 1 := by omega
          rw [e2, take1 h hlen] at hx
          simp only [List.mem_cons, List.not_mem_nil, or_false] at hx
          subst hx
          rcases dec_cases l hl h with ⟨a, e⟩ | ⟨_, e⟩ | ⟨a, _⟩
          · rw [e] at c1; simp only at c1; omega
          · exact absurd e hnb
          · omega
theorem body_unesc : ∀ l, isB l → unesc (body l) = some l := by
  refine seg_ind (by rw [body_nil, unesc_nil]) (fun l hl hB ih => ?_)
  rw [body_cons hl, shown_unesc hB hl, ih]
  simp
theorem quoteL_inj {u v : List Int} (hu : isB u) (hv : isB v) (h : quoteL u = quoteL v) : u = v := by
  unfold quoteL at h
  have h2 : body u = body v := by
    have := List.append_cancel_right h
    exact List.append_cancel_left this
  have a := body_unesc u hu
  rw [h2, body_unesc v hv] at a
  exact (Option.some.inj a).symm
theorem unesc_ok : ∀ (n : Nat) (l o : List Int), l.length ≤ n → isB l → unesc l = some o → isB o ∧ o.length ≤ l.length
  | 0, l, o, hl, hB, h => by
    have : l = [] := List.length_eq_zero_iff.1 (by omega)
    subst this
    rw [unesc_nil] at h; cases h
    exact ⟨isB_nil, by simp⟩
  | n + 1, [], o, hl, hB, h => by
    rw [unesc_nil] at h; cases h
    exact ⟨isB_nil, by simp⟩
  | n + 1, c :: r, o, hl, hB, h => by
    have hr : isB r := fun x hx => hB x (by simp [hx])
    simp only [List.length_cons] at hl
    by_cases hc : c = 92
    · subst hc
      cases he : escL r with
      | none => rw [unesc_none he] at h; cases h
      | some p =>
        obtain ⟨b, m⟩ := p
        rw [unesc_esc he] at h
        cases h2 : unesc (r.drop m) with
        | none => rw [h2] at h; cases h
        | some o' =>
          rw [h2] at h; cases h
          have hm := escL_le he
          obtain ⟨a, b'⟩ := unesc_ok n (r.drop m) o' (by rw [List.length_drop]; omega) (isB_drop hr m) h2
          rw [List.length_drop] at b'
          refine ⟨?_, by simp only [List.length_cons]; omega⟩
          intro x hx
          rcases List.mem_cons.1 hx with rfl | hx
          · exact escL_b hr he
          · exact a x hx
    · rw [unesc_plain hc] at h
      cases h2 : unesc r with
      | none => rw [h2] at h; cases h
      | some o' =>
        rw [h2] at h; cases h
        obtain ⟨a, b'⟩ := unesc_ok n r o' (by omega) hr h2
        refine ⟨?_, by simp only [List.length_cons]; omega⟩
        intro x hx
        rcases List.mem_cons.1 hx with rfl | hx
        · exact hB _ (by simp)
        · exact a x hx
/-! ### the program's own reading -/
theorem byte_str {l : List Int} (h : isB l) (k : Nat) (hk : k < l.length) : bt (strOfNums l) (k : Int) = l[k] := by rw [bt_str h, gt_nat l k hk]
theorem escaped_str {r : List Int} (h : isB r) : name_escaped (strOfNums r) = some (match escL r with | some (b, n) => (b, (n : Int)) | none => (0, 0)) := by
  unfold name_escaped
  rw [seq_nil_str h]
  match r with
  | [] => rfl
  | c :: t =>
    have e0 : decide ((c :: t) = []) = false := by simp
    have b0 : bt (strOfNums (c :: t)) 0 = c := byte_str h 0 (by simp)
    simp only [e0, Bool.false_eq_true, if_false, strOfNums_size, b0]
    rw [if_pos (by simp)]
    by_cases c1 : c = 110
    · have : (c == 110) = true := by simp [c1]
      simp only [this, if_true, escL, if_pos c1]; rfl
    · have d1 : (c == 110) = false := by simp [c1]
      simp only [d1, Bool.false_eq_true, if_false, escL, if_neg c1]
      by_cases c2 : c = 120
      · have d2 : (c == 120) = true := by simp [c2]
        simp only [d2, if_true, if_pos c2]
        match t with
        | [] => rfl
        | [a] => rfl
        | a :: b :: t =>
          have b1 : bt (strOfNums (c :: a :: b :: t)) 1 = a := byte_str h 1 (by simp)
          have b2 : bt (strOfNums (c :: a :: b :: t)) 2 = b := byte_str h 2 (by simp)
          have d3 : decide (((c :: a :: b :: t).length : Int) < 3) = false := by simp <;> omega
          simp only [d3, Bool.false_eq_true, if_false, b1, b2]
          rw [if_pos (by simp; omega), if_pos (by simp; omega)]
          have i1 : ∀ x, strings_IndexByte (⟨#[48, 49, 50, 51, 52, 53, 54, 55, 56, 57, 97, 98, 99, 100, 101, 102]⟩ : ByteArray) x = some (hexv x) := fun x => rfl
          simp only [i1, Option.bind_some, orS]
          by_cases c3 : hexv a < 0 ∨ hexv b < 0
          · have d : (decide (hexv a < 0) || decide (hexv b < 0)) = true := by simp; exact c3
            simp only [d, if_true, if_pos c3]
          · have d : (decide (hexv a < 0) || decide (hexv b < 0)) = false := by simp; omega
            simp only [d, Bool.false_eq_true, if_false, if_neg c3]; rfl
      · have d2 : (c == 120) = false := by simp [c2]
        simp only [d2, Bool.false_eq_true, if_false, if_neg c2]
        rw [if_pos (by simp)]; rfl
theorem drop_str (l : List Int) (k : Nat) (hk : k ≤ l.length) : sx (strOfNums l) (k : Int) (l.length : Int) = strOfNums (l.drop k) := by
  rw [sx_str]; simp
theorem unq_l0 : ∀ (n k : Nat) (l acc : List Int), l.length ≤ n → n < k → isB l → acc.length + l.length ≤ 4000100 →
    name_Unquote.l0 k (strOfNums l) acc = some (match unesc l with | some o => .inr (acc ++ o) | none => .inl ((⟨#[]⟩ : ByteArray), false))
  | n, 0, l, acc, _, hk, _, _ => by omega
  | n, k + 1, [], acc, hl, hk, hB, hI => by
    rw [unesc_nil]
    simp [name_Unquote.l0, strOfNums_size]
  | 0, k + 1, c :: r, acc, hl, hk, hB, hI => by simp at hl
  | n + 1, k + 1, c :: r, acc, hl, hk, hB, hI => by
    have hL := LIM_val
    have hr : isB r := fun x hx => hB x (by simp [hx])
    have b0 : bt (strOfNums (c :: r)) 0 = c := byte_str hB 0 (by simp)
    have d0 : decide (((c :: r).length : Int) > 0) = true := by simp <;> omega
    have hs : sx (strOfNums (c :: r)) 1 ((c :: r).length : Int) = strOfNums r := by
      have := drop_str (c :: r) 1 (by simp)
      exact this
    simp only [List.length_cons] at hl hI
    simp only [name_Unquote.l0, strOfNums_size, d0, if_true, b0]
    rw [if_pos (by simp)]
    by_cases hc : c = 92
    · have dc : (c == 92) = true := by simp [hc]
      simp only [dc, if_true]
      rw [if_pos (by simp; omega), hs, escaped_str hr, hc]
      simp only [Option.bind_some]
      cases he : escL r with
      | none =>
        rw [unesc_none he]
        rfl
      | some p =>
        obtain ⟨b, m⟩ := p
        have hm := escL_le he
        have dm : (((m : Nat) : Int) == 0) = false := by simp; omega
        simp only [dm, Bool.false_eq_true, if_false, Option.bind_some, strOfNums_size]
        rw [if_pos (by simp; omega), if_pos (by omega), drop_str r m hm.2, unq_l0 n k (r.drop m) (acc ++ [b]) (by rw [List.length_drop]; omega) (by omega) (isB_drop hr m) (by simp; omega), unesc_esc he]
        cases unesc (r.drop m) with
        | none => rfl
        | some o => simp
    · have dc : (c == 92) = false := by simp [hc]
      simp only [dc, Bool.false_eq_true, if_false, Option.bind_some, strOfNums_size]
      rw [if_pos (by simp; omega), if_pos (by simp; omega), hs, unq_l0 n k r (acc ++ [c]) (by omega) (by omega) hr (by simp; omega), unesc_plain hc]
      cases unesc r with
      | none => rfl
      | some o => simp
end Go.Cen
