/- NAME: the reference's reading back. -/
import Derived.Test.YthdoklobbcedcaaDoorTNameH
set_option linter.unusedVariables false
set_option linter.unusedSimpArgs false
namespace Go.Cen
def hexw (a b : Int) : Int := wu8 (wi64 (wi64 (hexv a * 16) + hexv b))
def rUn (l : List Int) : Option (List Int) :=
  match l with
  | [] => some []
  | c :: r => if c ≠ 92 then (rUn r).map (c :: ·) else match r with
    | [] => none
    | d :: t => if d = 110 then (rUn t).map (10 :: ·) else match t with
      | [] => (rUn []).map (d :: ·)
      | [a] => (rUn [a]).map (d :: ·)
      | a :: b :: t' => if d = 120 ∧ 0 ≤ hexv a ∧ 0 ≤ hexv b then (rUn t').map (hexw a b :: ·) else (rUn (a :: b :: t')).map (d :: ·)
termination_by l.length
theorem rUn_nil : rUn [] = some [] := by rw [rUn]
theorem rUn_plain {c : Int} (h : c ≠ 92) (r : List Int) : rUn (c :: r) = (rUn r).map (c :: ·) := by rw [rUn.eq_def]; simp [h]
theorem rUn_end : rUn [92] = none := by rw [rUn]; simp
theorem rUn_n (t : List Int) : rUn (92 :: 110 :: t) = (rUn t).map (10 :: ·) := by rw [rUn.eq_def]; simp
theorem rUn_hex {a b : Int} (h : 0 ≤ hexv a ∧ 0 ≤ hexv b) (t : List Int) : rUn (92 :: 120 :: a :: b :: t) = (rUn t).map (hexw a b :: ·) := by rw [rUn.eq_def]; simp [h]
/-- no digits follow -/
def noHex (d : Int) : List Int → Prop
  | a :: b :: _ => ¬ (d = 120 ∧ 0 ≤ hexv a ∧ 0 ≤ hexv b)
  | _ => True
theorem rUn_other {d : Int} (h : d ≠ 110) {t : List Int} (ht : noHex d t) : rUn (92 :: d :: t) = (rUn t).map (d :: ·) := by
  rw [rUn.eq_def]
  match t, ht with
  | [], _ => simp [h]
  | [a], _ => simp [h]
  | a :: b :: t', ht =>
    have ht' : ¬ (d = 120 ∧ 0 ≤ hexv a ∧ 0 ≤ hexv b) := ht
    simp only [ne_eq, not_true_eq_false, if_false, h, ht']
theorem hexv_range : ∀ n < 256, -1 ≤ hexv ((n : Nat) : Int) ∧ hexv ((n : Nat) : Int) < 16 := by decide +kernel
theorem hexv_lt {c : Int} (h : 0 ≤ c ∧ c < 256) : -1 ≤ hexv c ∧ hexv c < 16 := by
  have := hexv_range c.toNat (by omega)
  rwa [Int.toNat_of_nonneg h.1] at this
theorem hex_both : ∀ p < 16, ∀ q < 16, wu8 (bOr .i64 (bShl .i64 ((p : Nat) : Int) 4) ((q : Nat) : Int)) = wu8 (wi64 (wi64 (((p : Nat) : Int) * 16) + ((q : Nat) : Int))) := by decide +kernel
theorem rUn_of : ∀ (n : Nat) (l o : List Int), l.length ≤ n → isB l → unesc l = some o → rUn l = some o
  | n, [], o, _, _, h => by rw [unesc_nil] at h; rw [rUn_nil]; exact h
  | 0, c :: r, o, hl, _, _ => by simp at hl
  | n + 1, c :: r, o, hl, hB, h => by
    have hr : isB r := fun x hx => hB x (by simp [hx])
    simp only [List.length_cons] at hl
    by_cases hc : c = 92
    · subst hc
      match r, hr, hl, h with
      | [], _, _, h =>
        rw [unesc_none rfl] at h; cases h
      | d :: t, hr, hl, h =>
        have ht : isB t := fun x hx => hr x (by simp [hx])
        simp only [List.length_cons] at hl
        by_cases h1 : d = 110
        · subst h1
          have he : escL (110 :: t) = some (10, 1) := by simp [escL]
          rw [unesc_esc he] at h
          rw [rUn_n]
          cases h2 : unesc t with
          | none => simp [h2] at h
          | some o' =>
            rw [rUn_of n t o' (by omega) ht h2]
            simpa [h2] using h
        · by_cases h3 : d = 120
          · subst h3
            match t, ht, hl, h with
            | [], _, _, h => rw [unesc_none (by simp [escL])] at h; cases h
            | [a], _, _, h => rw [unesc_none (by simp [escL])] at h; cases h
            | a :: b :: t', ht, hl, h =>
              have ha := hexv_lt (ht a (by simp))
              have hb := hexv_lt (ht b (by simp))
              by_cases h4 : hexv a < 0 ∨ hexv b < 0
              · rw [unesc_none (by simp [escL, h4])] at h; cases h
              · have he : escL (120 :: a :: b :: t') = some (wu8 (bOr .i64 (bShl .i64 (hexv a) 4) (hexv b)), 3) := by simp [escL, h4]
                rw [unesc_esc he] at h
                rw [rUn_hex (by omega)]
                have hv : wu8 (bOr .i64 (bShl .i64 (hexv a) 4) (hexv b)) = hexw a b := by
                  have := hex_both (hexv a).toNat (by omega) (hexv b).toNat (by omega)
                  rw [Int.toNat_of_nonneg (by omega), Int.toNat_of_nonneg (by omega)] at this
                  exact this
                simp only [List.drop_succ_cons, List.drop_zero, hv] at h
                simp only [List.length_cons] at hl
                cases h2 : unesc t' with
                | none => rw [h2] at h; cases h
                | some o' =>
                  rw [rUn_of n t' o' (by omega) (fun x hx => ht x (by simp [hx])) h2]
                  rw [h2] at h; exact h
          · have he : escL (d :: t) = some (d, 1) := by simp [escL, h1, h3]
            rw [unesc_esc he] at h
            have hnh : noHex d t := by
              match t with
              | [] => trivial
              | [a] => trivial
              | a :: b :: t' => exact fun hh => h3 hh.1
            rw [rUn_other h1 hnh]
            simp only [List.drop_succ_cons, List.drop_zero] at h
            cases h2 : unesc t with
            | none => rw [h2] at h; cases h
            | some o' =>
              rw [rUn_of n t o' (by omega) ht h2]
              rw [h2] at h; exact h
    · rw [unesc_plain hc] at h
      rw [rUn_plain hc]
      cases h2 : unesc r with
      | none => rw [h2] at h; cases h
      | some o' =>
        rw [rUn_of n r o' (by omega) hr h2]
        rw [h2] at h; exact h
theorem map_some {α β : Type} {f : α → β} {x : Option α} {y : β} (h : x.map f = some y) : ∃ a, x = some a ∧ f a = y := by
  cases x with
  | none => cases h
  | some a => exact ⟨a, rfl, Option.some.inj h⟩
theorem rUn_ok : ∀ (n : Nat) (l o : List Int), l.length ≤ n → isB l → rUn l = some o → isB o ∧ o.length ≤ l.length
  | n, [], o, _, _, h => by rw [rUn_nil] at h; cases h; exact ⟨isB_nil, by simp⟩
  | 0, c :: r, o, hl, _, _ => by simp at hl
  | n + 1, c :: r, o, hl, hB, h => by
    have hr : isB r := fun x hx => hB x (by simp [hx])
    have hc0 := hB c (by simp)
    simp only [List.length_cons] at hl
    have cons : ∀ (v : Int) (o' : List Int) (k : Nat), 0 ≤ v ∧ v < 256 → isB o' → o'.length ≤ k → isB (v :: o') ∧ (v :: o').length ≤ k + 1 := by
      intro v o' k hv ho hk
      refine ⟨fun x hx => ?_, by simp; omega⟩
      rcases List.mem_cons.1 hx with rfl | hx
      · exact hv
      · exact ho x hx
    by_cases hc : c = 92
    · subst hc
      match r, hr, hl, h with
      | [], _, _, h => rw [rUn_end] at h; cases h
      | d :: t, hr, hl, h =>
        have ht : isB t := fun x hx => hr x (by simp [hx])
        have hd := hr d (by simp)
        simp only [List.length_cons] at hl ⊢
        by_cases h1 : d = 110
        · subst h1
          rw [rUn_n] at h
          obtain ⟨o', h2, rfl⟩ := map_some h
          obtain ⟨a, b⟩ := rUn_ok n t o' (by omega) ht h2
          have := cons 10 o' t.length (by omega) a b
          exact ⟨this.1, by omega⟩
        · by_cases h3 : noHex d t
          · rw [rUn_other h1 h3] at h
            obtain ⟨o', h2, rfl⟩ := map_some h
            obtain ⟨a, b⟩ := rUn_ok n t o' (by omega) ht h2
            have := cons d o' t.length hd a b
            exact ⟨this.1, by omega⟩
          · match t, ht, hl, h, h3 with
            | [], _, _, _, h3 => exact absurd trivial h3
            | [a], _, _, _, h3 => exact absurd trivial h3
            | a :: b :: t', ht, hl, h, h3 =>
              have h4 : d = 120 ∧ 0 ≤ hexv a ∧ 0 ≤ hexv b := Classical.byContradiction h3
              obtain ⟨rfl, h5⟩ := h4
              rw [rUn_hex h5] at h
              obtain ⟨o', h2, rfl⟩ := map_some h
              simp only [List.length_cons] at hl ⊢
              obtain ⟨p, q⟩ := rUn_ok n t' o' (by omega) (fun x hx => ht x (by simp [hx])) h2
              have := cons (hexw a b) o' t'.length (by unfold hexw; rw [wu8_eq]; omega) p q
              exact ⟨this.1, by omega⟩
    · rw [rUn_plain hc] at h
      obtain ⟨o', h2, rfl⟩ := map_some h
      obtain ⟨a, b⟩ := rUn_ok n r o' (by omega) hr h2
      exact cons c o' r.length hc0 a b
end Go.Cen
