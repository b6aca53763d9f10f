/- NAME: the reference's Unquote, whole. -/
import Derived.Test.YthdoklobbcedcaaDoorTNameI
set_option linter.unusedVariables false
set_option linter.unusedSimpArgs false
namespace Go.Cen
set_option maxRecDepth 10000 in
theorem rUnq_l0 (s m : List Int) (hmB : isB m) (hm : sx (strOfNums s) 1 (wi64 ((s.length : Int) - 1)) = strOfNums m) (hml : m.length ≤ 1000000) : ∀ (n i k : Nat) (acc : List Int), m.length - i ≤ n → i ≤ m.length → n < k → acc.length + (m.length - i) ≤ 1000000 →
    ref03_Unquote.l0 (strOfNums s) k acc (i : Int) = some (match rUn (m.drop i) with | some o => .inr (acc ++ o) | none => .inl ((⟨#[]⟩ : ByteArray), false)) := by
  have hL := LIM_val
  intro n
  induction n with
  | zero =>
    intro i k acc hn hi hk hI
    obtain ⟨k, rfl⟩ : ∃ m, k = m + 1 := ⟨k - 1, by omega⟩
    have hd : decide ((i : Int) < (m.length : Int)) = false := by simp; omega
    have hz : m.drop i = [] := List.drop_eq_nil_iff.2 (by omega)
    simp only [ref03_Unquote.l0, hm, strOfNums_size, hd, hz, rUn_nil, List.append_nil]
    rfl
  | succ n ih =>
    intro i k acc hn hi hk hI
    obtain ⟨k, rfl⟩ : ∃ m, k = m + 1 := ⟨k - 1, by omega⟩
    by_cases hlt : i < m.length
    · have hd : decide ((i : Int) < (m.length : Int)) = true := by simp; omega
      have hg : (0 : Int) ≤ (i : Int) ∧ (i : Int) < (m.length : Int) := ⟨by omega, by omega⟩
      have hdr : m.drop i = m[i] :: m.drop (i + 1) := List.drop_eq_getElem_cons hlt
      have hb0 := byte_str hmB i hlt
      have w1 : wi64 ((i : Int) + 1) = ((i + 1 : Nat) : Int) := by rw [wi64_id (by omega)]; omega
      have next : ∀ (v : Int) (j : Nat), i < j → j ≤ m.length → ref03_Unquote.l0 (strOfNums s) k (acc ++ [v]) (j : Int) = some (match rUn (m.drop j) with | some o => .inr (acc ++ [v] ++ o) | none => .inl ((⟨#[]⟩ : ByteArray), false)) := by
        intro v j h1 h2
        exact ih j k (acc ++ [v]) (by omega) h2 (by omega) (by simp; omega)
      have fin : ∀ (v : Int) (t : List Int) (Y : Option (List Int)), Y = (rUn t).map (v :: ·) → (some (match rUn t with | some o => Sum.inr (acc ++ [v] ++ o) | none => Sum.inl ((⟨#[]⟩ : ByteArray), false)) : Option ((ByteArray × Bool) ⊕ List Int)) = some (match Y with | some o => .inr (acc ++ o) | none => .inl ((⟨#[]⟩ : ByteArray), false)) := by
        intro v t Y hY
        rw [hY]
        cases rUn t with
        | none => rfl
        | some o => simp
      simp only [ref03_Unquote.l0, hm, strOfNums_size, hd, hg, and_self, decide_true, if_true, hb0, w1]
      by_cases hc : m[i] = 92
      · have dc : (m[i] != 92) = false := by simp [hc]
        simp only [dc, Bool.false_eq_true, if_false]
        by_cases he : i + 1 < m.length
        · have de : decide (((i + 1 : Nat) : Int) ≥ (m.length : Int)) = false := by simp; omega
          have hg1 : (0 : Int) ≤ ((i + 1 : Nat) : Int) ∧ ((i + 1 : Nat) : Int) < (m.length : Int) := ⟨by omega, by omega⟩
          have hdr1 : m.drop (i + 1) = m[i + 1] :: m.drop (i + 2) := List.drop_eq_getElem_cons he
          have hb1 := byte_str hmB (i + 1) he
          have w2 : wi64 (((i + 1 : Nat) : Int) + 1) = ((i + 2 : Nat) : Int) := by rw [wi64_id (by omega)]; omega
          have w3 : wi64 (((i + 1 : Nat) : Int) + 2) = ((i + 3 : Nat) : Int) := by rw [wi64_id (by omega)]; omega
          have w4 : wi64 (((i + 3 : Nat) : Int) + 1) = ((i + 4 : Nat) : Int) := by rw [wi64_id (by omega)]; omega
          simp only [de, hg1, and_self, Bool.false_eq_true, if_false, if_true, hb1, w2, w3]
          by_cases h110 : m[i + 1] = 110
          · have d1 : (m[i + 1] == 110) = true := by simp [h110]
            simp only [d1, if_true]
            rw [if_pos (by simp; omega)]
            simp only [Option.bind_some, w2]
            rw [next 10 (i + 2) (by omega) (by omega)]
            exact fin _ _ _ (by rw [hdr, hc, hdr1, h110, rUn_n])
          · have d1 : (m[i + 1] == 110) = false := by simp [h110]
            simp only [d1, Bool.false_eq_true, if_false]
            -- the other byte is taken as it is
            have other : noHex m[i + 1] (m.drop (i + 2)) → ∀ X : Option Bool, X = some false →
                ((X.bind fun x34 => (if x34 = true then (if 0 ≤ ((i + 2 : Nat) : Int) ∧ ((i + 2 : Nat) : Int) < (m.length : Int) then (if 0 ≤ ((i + 3 : Nat) : Int) ∧ ((i + 3 : Nat) : Int) < (m.length : Int) then ((ref03_digit (bt (strOfNums m) ((i + 2 : Nat) : Int))).bind fun y49 => ((ref03_digit (bt (strOfNums m) ((i + 3 : Nat) : Int))).bind fun y51 => (if acc.length + ([wu8 (wi64 ((wi64 (y49 * 16)) + y51))] : List Int).length ≤ LIM then some (.inr (acc ++ ([wu8 (wi64 ((wi64 (y49 * 16)) + y51))] : List Int), ((i + 3 : Nat) : Int))) else none))) else none) else none) else (if acc.length + ([m[i + 1]] : List Int).length ≤ LIM then some (.inr (acc ++ ([m[i + 1]] : List Int), ((i + 1 : Nat) : Int))) else none)) : Option (((ByteArray × Bool) ⊕ ((List Int) × Int)))).bind fun r => match r with | .inl v => some (.inl v) | .inr (x16, x19) => ref03_Unquote.l0 (strOfNums s) k x16 (wi64 (x19 + 1))) =
                some (match rUn (m.drop i) with | some o => .inr (acc ++ o) | none => .inl ((⟨#[]⟩ : ByteArray), false)) := by
              intro hnh X hX
              rw [hX]
              simp only [Option.bind_some, Bool.false_eq_true, if_false]
              rw [if_pos (by simp; omega)]
              simp only [Option.bind_some, w2]
              rw [next m[i + 1] (i + 2) (by omega) (by omega)]
              exact fin _ _ _ (by rw [hdr, hc, hdr1, rUn_other h110 hnh])
            by_cases h120 : m[i + 1] = 120
            · have d2 : (m[i + 1] == 120) = true := by simp [h120]
              simp only [d2, if_true]
              by_cases h3 : i + 3 < m.length
              · have hdr2 : m.drop (i + 2) = m[i + 2] :: m.drop (i + 3) := List.drop_eq_getElem_cons (by omega)
                have hdr3 : m.drop (i + 3) = m[i + 3] :: m.drop (i + 4) := List.drop_eq_getElem_cons h3
                have d3 : decide (((i + 3 : Nat) : Int) < (m.length : Int)) = true := by simp; omega
                have hg2 : (0 : Int) ≤ ((i + 2 : Nat) : Int) ∧ ((i + 2 : Nat) : Int) < (m.length : Int) := ⟨by omega, by omega⟩
                have hg3 : (0 : Int) ≤ ((i + 3 : Nat) : Int) ∧ ((i + 3 : Nat) : Int) < (m.length : Int) := ⟨by omega, by omega⟩
                have hb2 := byte_str hmB (i + 2) (by omega)
                have hb3 := byte_str hmB (i + 3) h3
                have g2 := digit_eq (hmB m[i + 2] (List.getElem_mem _))
                have g3 := digit_eq (hmB m[i + 3] (List.getElem_mem _))
                by_cases hx : 0 ≤ hexv m[i + 2] ∧ 0 ≤ hexv m[i + 3]
                · have q1 : decide (hexv m[i + 2] ≥ 0) = true := by simp; omega
                  have q2 : decide (hexv m[i + 3] ≥ 0) = true := by simp; omega
                  simp only [decide_true, d3, if_true, hg2, hg3, and_self, hb2, hb3, g2, g3, Option.bind_some, q1, q2]
                  rw [if_pos (by simp; omega)]
                  simp only [Option.bind_some, w4]
                  rw [next (wu8 (wi64 (wi64 (hexv m[i + 2] * 16) + hexv m[i + 3]))) (i + 4) (by omega) (by omega)]
                  exact fin _ _ _ (by rw [hdr, hc, hdr1, h120, hdr2, hdr3, rUn_hex hx]; rfl)
                · refine other (by rw [hdr2, hdr3]; exact fun hh => hx hh.2) _ ?_
                  simp only [decide_true, d3, if_true, hg2, hg3, and_self, hb2, hb3, g2, g3, Option.bind_some]
                  by_cases q : 0 ≤ hexv m[i + 2]
                  · have q1 : decide (hexv m[i + 2] ≥ 0) = true := by simp; omega
                    have q2 : decide (hexv m[i + 3] ≥ 0) = false := by simp; omega
                    simp only [decide_true, q1, q2, if_true]
                  · have q1 : decide (hexv m[i + 2] ≥ 0) = false := by simp; omega
                    simp only [q1, Bool.false_eq_true, if_false]
              · have d3 : decide (((i + 3 : Nat) : Int) < (m.length : Int)) = false := by simp; omega
                refine other ?_ _ (by simp only [d3, Bool.false_eq_true, if_false])
                have hl : (m.drop (i + 2)).length ≤ 1 := by rw [List.length_drop]; omega
                match hq : m.drop (i + 2), hl with
                | [], _ => trivial
                | [a], _ => trivial
            · have d2 : (m[i + 1] == 120) = false := by simp [h120]
              simp only [d2, Bool.false_eq_true, if_false]
              refine other ?_ _ rfl
              match m.drop (i + 2) with
              | [] => trivial
              | [a] => trivial
              | a :: b :: t => exact fun hh => h120 hh.1
        · have de : decide (((i + 1 : Nat) : Int) ≥ (m.length : Int)) = true := by simp; omega
          have hz : m.drop (i + 1) = [] := List.drop_eq_nil_iff.2 (by omega)
          simp only [de, if_true, Option.bind_some]
          rw [hdr, hc, hz, rUn_end]
      · have dc : (m[i] != 92) = true := by simp [hc]
        simp only [dc, if_true]
        rw [if_pos (by simp; omega)]
        simp only [Option.bind_some, w1]
        rw [next m[i] (i + 1) (by omega) (by omega)]
        exact fin _ _ _ (by rw [hdr, rUn_plain hc])
    · have hd : decide ((i : Int) < (m.length : Int)) = false := by simp; omega
      have hz : m.drop i = [] := List.drop_eq_nil_iff.2 (by omega)
      simp only [ref03_Unquote.l0, hm, strOfNums_size, hd, hz, rUn_nil, List.append_nil]
      rfl
end Go.Cen
