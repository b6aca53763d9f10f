/- EVENT: how long; what is not told. -/
import Derived.Test.YthdoklobbcedcadVEvG
set_option linter.unusedVariables false
set_option linter.unusedSimpArgs false
set_option maxRecDepth 100000
namespace Go.Cen
theorem works05 : law05_works = some true := by decide +kernel
theorem len_cnt : ∀ l, isB l → l.length ≤ 4 * cnt l := by
  refine seg_ind (by simp [cnt_nil]) fun l hl hB ih => ?_
  rw [cnt_cons hl]
  have := dec_w l hl
  simp only [List.length_drop] at ih
  omega
theorem nm_small {s : ByteArray} (h : nmOk s = true) : s.size ≤ 96 := by
  unfold nmOk validN at h
  simp only [Bool.and_eq_true, decide_eq_true_eq] at h
  have := len_cnt (byts s) (byts_isB s)
  rw [byts_len] at this
  omega
theorem num6 {a : Int} (h0 : 0 ≤ a) (h : a ≤ 1099511627776) : (numL (clampN a)).length ≤ 6 := numL_len 5 _ (by have := clampN_id h0 (show a ≤ 1125899906842624 by omega); omega)
theorem num1 {a : Int} (h0 : 0 ≤ a) (h : a ≤ 127) : numL (clampN a) = [a] := by
  have := clampN_id h0 (show a ≤ 1125899906842624 by omega)
  rw [numL_lt (by omega), this]
theorem num2 {a : Int} (h0 : 0 ≤ a) (h : a ≤ 600) : (numL (clampN a)).length ≤ 2 := numL_len 1 _ (by have := clampN_id h0 (show a ≤ 1125899906842624 by omega); omega)
theorem valid_name {e : ApiEvent} (hv : validE e = true) : e.Name.size ≤ 96 := by
  have he : (⟨#[]⟩ : ByteArray).size = 0 := rfl
  rcases kinds e.Kind with k | k | k | k | k | k | k | k | ⟨k0, k4, k5, k1, k2, k3, k6, k7⟩
  case inr.inr.inr.inr.inr.inr.inr.inr => simp [validE, k0, k1, k2, k3, k4, k5, k6, k7] at hv
  all_goals simp [validE, k] at hv
  all_goals first
    | exact nm_small hv.2.1
    | (have := (noS_eq _).1 hv.2.1; rw [this, he]; omega)
theorem put_shape {e : ApiEvent} (h : okE e) (hv : validE e = true) : ∃ t, putE e = e.Kind :: t ∧ 1 ≤ t.length ∧ t.length ≤ 109 := by
  have hk := valid_kind hv
  obtain ⟨⟨i1, i2⟩, ⟨t1, t2⟩, ⟨l1, l2⟩⟩ := valid_nums h hv
  have hn := valid_name hv
  refine ⟨(partsE e).flatMap bytD, by unfold putE; rw [num1 (by omega) (by omega)]; rfl, ?_⟩
  have a1 := num6 i1 i2; have a2 := num6 t1 t2; have a3 := num2 l1 l2
  have p1 := numL_pos (clampN e.ID); have p2 := numL_pos (clampN e.Time); have p3 := numL_pos (clampN e.Len)
  have a4 : numL (clampN (e.Name.size : Int)) = [(e.Name.size : Int)] := num1 (by omega) (by omega)
  have a5 := h.2.1
  have hb := byts_len e.Name
  rcases kinds e.Kind with k | k | k | k | k | k | k | k | ⟨k0, k4, k5, k1, k2, k3, k6, k7⟩
  case inr.inr.inr.inr.inr.inr.inr.inr => simp [validE, k0, k1, k2, k3, k4, k5, k6, k7] at hv
  · rw [show partsE e = [.i68 e.ID, .i53 e.Name] from by simp [partsE, k]]
    simp [bytD, a4, hb]; omega
  · rw [show partsE e = [.i68 e.ID, .i53 e.Name] from by simp [partsE, k]]
    simp [bytD, a4, hb]; omega
  · rw [show partsE e = [.i68 e.ID, .i53 e.Name] from by simp [partsE, k]]
    simp [bytD, a4, hb]; omega
  · rw [show partsE e = [.i68 e.ID, .i68 e.Len] from by simp [partsE, k]]
    simp [bytD]; omega
  · rw [show partsE e = [.i68 e.ID, .i68 e.Time, .i68 e.Len, .i71 e.Sum] from by simp [partsE, k]]
    simp [bytD, a5]; omega
  · rw [show partsE e = [.i68 e.ID, .i68 e.Time] from by simp [partsE, k]]
    simp [bytD]; omega
  · rw [show partsE e = [.i68 e.ID] from by simp [partsE, k]]
    simp [bytD]; omega
  · rw [show partsE e = [.i68 e.Time] from by simp [partsE, k]]
    simp [bytD]; omega
end Go.Cen
