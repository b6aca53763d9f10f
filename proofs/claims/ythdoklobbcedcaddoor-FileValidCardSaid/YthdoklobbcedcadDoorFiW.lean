/- FILE: a new file may be, and so may each that is made of it. -/
import Derived.Test.YthdoklobbcedcadDoorFiV
set_option linter.unusedVariables false
set_option linter.unusedSimpArgs false
set_option maxRecDepth 100000
namespace Go.Cen
theorem vN_big {s : ByteArray} (h : s.size ≤ 9223372036854775807) : name_Valid s = some (vN s) := by
  have := name_Valid_str (l := byts s) (byts_isB s) (by rw [byts_len]; omega)
  rwa [strOfNums_byts] at this
theorem New_big (i : Int) {s : ByteArray} (h : s.size ≤ 9223372036854775807) : file_New i s = some (tup6 (newF i s).1 (newF i s).2) := by
  unfold file_New newF
  rw [vN_big h, numbered_eq]
  cases vN s with
  | false => rfl
  | true => cases numB i <;> rfl
theorem law08_FileValid_eq (i : Int) (s : ByteArray) (l : List ApiOp) (h : s.size ≤ 9223372036854775807) : law08_FileValid i s l = some true := by
  unfold law08_FileValid
  simp only [works08, Option.bind_some, Bool.not_true, Bool.false_eq_true, if_false, New_big i h, tup6, if_true]
  cases hv : vN s with
  | false => simp [newF, hv]
  | true =>
    cases hn : numB i with
    | false => simp [newF, hv, hn]
    | true =>
      have e : newF i s = (⟨i, s, e0, false, 0, []⟩, 0) := by simp [newF, hv, hn]
      rw [e]
      by_cases hl : (l.length : Int) > 20
      · simp [hl]
      · have v : validF ⟨i, s, e0, false, 0, []⟩ = true := by
          rw [validF_iff]
          exact ⟨hn, hv, (by show (0 : Nat) ≤ 600; omega), (by show timeB 0 = true; decide), by simp, by simp⟩
        obtain ⟨r, e1, e2⟩ := valid_l0 l (by omega) _ v
        simp only at e1
        simp only [hl, decide_false, bne_self_eq_false, Bool.false_eq_true, if_false, Option.bind_some, e1]
        rcases e2 with rfl | ⟨g, g1, g2, g3, rfl⟩
        · rfl
        · have sm := valid_small g1
          simp only at g2 g3
          have V := fValid_eq g sm.1 sm.2.1
          rw [g2, g3, g1] at V
          simp only [Option.bind_some, g2, g3, V, if_true, beq_self_eq_true, seq_refl]
end Go.Cen
