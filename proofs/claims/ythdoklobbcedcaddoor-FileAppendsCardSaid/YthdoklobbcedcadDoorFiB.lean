/- FILE: reads, appends, tells. -/
import Derived.Test.YthdoklobbcedcadDoorFiA
set_option linter.unusedVariables false
set_option linter.unusedSimpArgs false
set_option maxRecDepth 100000
namespace Go.Cen
theorem few_all {nm da : ByteArray} {l : List ByteArray} (h : fewB nm da l = true) : (l.length ≤ 200 ∧ ∀ x ∈ l, x.size ≤ 200) ∧ da.size ≤ 2000 ∧ nm.size ≤ 200 := by
  refine ⟨fewB_ok h, ?_⟩
  simp only [fewB, Bool.and_eq_true, decide_eq_true_eq] at h
  exact ⟨h.2.2.1, h.2.2.2⟩
/-! ### what is read -/
/-! ### alike -/
theorem Equal_eq (a b : List ByteArray) (ha : a.length ≤ 100000) : slices_Equal_string a b = some (decide (a = b)) := by
  unfold slices_Equal_string
  by_cases h : a.length = b.length
  · have e : ((a.length : Int) != (b.length : Int)) = false := by simp [h]
    rw [loop_eq a b h (by omega) (fun x y => seq x y) (slices_Equal_string.l0 a b) (fun k hd => by simp only [slices_Equal_string.l0, hd]; rfl)
      (fun k i hi hd hg hg2 hw => by
        simp only [slices_Equal_string.l0, hd, if_true, hg, hg2, and_self, hw]
        cases seq (gt a (i : Int)) (gt b (i : Int)) <;> rfl)]
    have z := zip_all_eq (fun x y => seq x y) seq_iff a b h
    simp only [e, Bool.false_eq_true, if_false, Option.bind_some]
    by_cases q : a = b
    · rw [if_pos (z.2 q)]; simp [q]
    · rw [if_neg (fun h => q (z.1 h))]; simp [q]
  · have e : ((a.length : Int) != (b.length : Int)) = true := by simp; omega
    have : a ≠ b := fun q => h (by rw [q])
    simp [e, this]
def sameF (f g : Fi) : Bool := (f.id == g.id) && (seq f.nm g.nm && (seq f.da g.da && ((f.sd == g.sd) && ((f.un == g.un) && decide (f.ho = g.ho)))))
theorem fSame_eq (f g : Fi) (h : f.ho.length ≤ 100000) : file_Same f.id f.nm f.da f.sd f.un f.ho g.id g.nm g.da g.sd g.un g.ho = some (sameF f g) := by
  unfold file_Same sameF
  rw [Equal_eq _ _ h]
  cases f.id == g.id <;> cases seq f.nm g.nm <;> cases seq f.da g.da <;> cases f.sd == g.sd <;> cases f.un == g.un <;> rfl
theorem sameF_self (f : Fi) : sameF f f = true := by simp [sameF, seq_refl]
theorem app_size (s t : ByteArray) : (s ++ t).size = s.size + t.size := ByteArray.size_append
theorem law08_FileAppends_eq (i : Int) (nm da : ByteArray) (sd : Bool) (un : Int) (l : List ByteArray) (a b : ByteArray) : law08_FileAppends i nm da sd un l a b = some true := by
  unfold law08_FileAppends
  simp only [works08, Option.bind_some, Bool.not_true, Bool.false_eq_true, if_false, Few7_eq, if_true]
  cases hf : fewB nm da l with
  | false => rfl
  | true =>
    obtain ⟨f1, f2, f3⟩ := few_all hf
    have hL : LIM = 1099511627776 := rfl
    by_cases ha : (a.size : Int) > 700
    · simp [ha]
    by_cases hb : (b.size : Int) > 700
    · simp [ha, hb]
    simp only [Bool.not_true, Bool.false_eq_true, if_false, ha, hb, decide_false, seq_e0]
    by_cases za : a = e0
    · simp [za]
    by_cases zb : b = e0
    · simp [za, zb]
    have hlim : a.size + b.size ≤ LIM := by omega
    have hab : (a ++ b).size = a.size + b.size := app_size a b
    have pa : 0 < a.size := by
      rcases Nat.eq_zero_or_pos a.size with q | q
      · exact absurd (byts_inj (by rw [byts_nil]; exact List.length_eq_zero_iff.1 (by rw [byts_len]; exact q)) : a = e0) za
      · exact q
    have zab : a ++ b ≠ e0 := fun q => by have := congrArg ByteArray.size q; rw [hab] at this; have z : e0.size = 0 := rfl; omega
    have hs1 : (appF sd da a).1.size ≤ 1000000 := by
      unfold appF
      repeat' split
      all_goals (first | (show da.size ≤ _; omega) | (show (da ++ a).size ≤ _; rw [app_size]; omega))
    have A1 := Append_eq ⟨i, nm, da, sd, un, l⟩ a (by show da.size ≤ _; omega) (by omega)
    have A2 := Append_eq ⟨i, nm, (appF sd da a).1, sd, un, l⟩ b hs1 (by omega)
    have A3 := Append_eq ⟨i, nm, da, sd, un, l⟩ (a ++ b) (by show da.size ≤ _; omega) (by omega)
    simp only at A1 A2 A3
    simp only [za, zb, decide_false, Bool.false_eq_true, if_false, Option.bind_some, A1, A2, A3, hlim, if_true]
    have S := fSame_eq ⟨i, nm, da ++ a ++ b, sd, un, l⟩ ⟨i, nm, da ++ (a ++ b), sd, un, l⟩ (by show l.length ≤ _; omega)
    have asc : da ++ a ++ b = da ++ (a ++ b) := ByteArray.append_assoc
    simp only at S
    have S2 : sameF ⟨i, nm, da ++ a ++ b, sd, un, l⟩ ⟨i, nm, da ++ (a ++ b), sd, un, l⟩ = true := by rw [asc]; exact sameF_self _
    rw [S2] at S
    cases sd with
    | true => simp [appF]
    | false =>
      by_cases h1 : 600 < da.size + a.size
      · have h2 : 600 < da.size + (a.size + b.size) := by omega
        simp [appF, za, zab, h1, hab, h2]
      · by_cases h2 : 600 < da.size + (a.size + b.size)
        · have h3 : 600 < da.size + a.size + b.size := by omega
          simp [appF, za, zb, zab, h1, hab, h2, app_size, h3]
        · have h3 : ¬ 600 < da.size + a.size + b.size := by omega
          simp only [appF, za, zb, zab, h1, hab, h2, app_size, h3, Bool.false_eq_true, if_false, bne_self_eq_false, if_true, beq_self_eq_true, Option.bind_some]
          rw [S]; rfl
end Go.Cen
