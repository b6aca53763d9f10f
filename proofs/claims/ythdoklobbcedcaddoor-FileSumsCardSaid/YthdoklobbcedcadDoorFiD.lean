/- FILE: what is sealed keeps its bytes; a seal tells the digest of all. -/
import Derived.Test.YthdoklobbcedcadDoorFiB
set_option linter.unusedVariables false
set_option linter.unusedSimpArgs false
set_option maxRecDepth 100000
namespace Go.Cen
abbrev nN : ByteArray := ⟨#[110]⟩
def fN (a : ByteArray) : Fi := ⟨5, nN, a, false, 0, []⟩
theorem small0 : smallL [] := ⟨by simp, fun x h => by cases h⟩
theorem sums_l0 (l : List ByteArray) (hn : l.length ≤ 20) : ∃ r, law08_FileSums.l0 l true FU e0 0 5 nN e0 false 0 [] = some r ∧ (r = .inl true ∨ ∃ a : ByteArray, a.size ≤ 600 ∧ r = .inr (a, 5, nN, a, false, 0, [])) := by
  have hL : LIM = 1099511627776 := rfl
  have := loopNI l.length (by omega) (fun k i (a : ByteArray) => (∃ r, law08_FileSums.l0 l true k a i 5 nN a false 0 [] = some r ∧ (r = .inl true ∨ ∃ a : ByteArray, a.size ≤ 600 ∧ r = .inr (a, 5, nN, a, false, 0, [])))) (fun _ _ => True) (fun _ a => a.size ≤ 600)
    (fun k a ha => by
      have hd : decide (((l.length : Nat) : Int) < (l.length : Int)) = false := by simp
      simp only [law08_FileSums.l0, hd, Bool.false_eq_true, if_false, eq_iff_iff, iff_true]
      exact ⟨_, rfl, .inr ⟨a, ha, rfl⟩⟩)
    (fun k i hi hw a ha ih => by
      have hd : decide ((i : Int) < (l.length : Int)) = true := by simp; omega
      have hg : 0 ≤ (i : Int) ∧ (i : Int) < (l.length : Int) := ⟨by omega, by omega⟩
      simp only [law08_FileSums.l0, hd, if_true, hg, and_self, gt_nat l i hi, hw, Option.bind_some, eq_iff_iff, iff_true]
      by_cases hs : (l[i].size : Int) > 700
      · simp [hs]
      · have D := Do_eq (fN a) ⟨1, e0, l[i], 0, 0, 0⟩ 0 small0 (by show a.size ≤ _; omega) (by show l[i].size ≤ _; omega)
        simp only [fN] at D
        simp only [hs, decide_false, Bool.false_eq_true, if_false, D, Option.bind_some, tupD]
        have hw2 : wi64 ((a.size : Int) + (l[i].size : Int)) = (a.size : Int) + (l[i].size : Int) := wi64_id (by omega)
        have hlim : a.size + l[i].size ≤ LIM := by omega
        rw [hw2, seq_e0]
        by_cases z : l[i] = e0
        · have : doF ⟨5, nN, a, false, 0, []⟩ ⟨1, e0, l[i], 0, 0, 0⟩ 0 = (⟨5, nN, a, false, 0, []⟩, ev0, 1) := by simp [doF, effF, appF, z]
          rw [this]
          have ih' := ih a ha
          simp only [eq_iff_iff, iff_true] at ih'
          simp only [z, decide_true, Bool.not_true, Bool.false_eq_true, if_false, Option.bind_some]
          exact ih'
        · by_cases q : 600 < a.size + l[i].size
          · have : doF ⟨5, nN, a, false, 0, []⟩ ⟨1, e0, l[i], 0, 0, 0⟩ 0 = (⟨5, nN, a, false, 0, []⟩, ev0, 10) := by simp [doF, effF, appF, z, q]
            have q2 : ¬ (a.size : Int) + (l[i].size : Int) ≤ 600 := by omega
            rw [this]
            have ih' := ih a ha
            simp only [eq_iff_iff, iff_true] at ih'
            simp only [z, q2, decide_false, Bool.not_false, if_true, Option.bind_some]
            exact ih'
          · have : doF ⟨5, nN, a, false, 0, []⟩ ⟨1, e0, l[i], 0, 0, 0⟩ 0 = (⟨5, nN, a ++ l[i], false, 0, []⟩, ⟨1, 5, e0, 0, l[i].size, z32⟩, 0) := by simp [doF, effF, appF, z, q, tellF, z32]
            have q2 : (a.size : Int) + (l[i].size : Int) ≤ 600 := by omega
            rw [this]
            have ih' := ih (a ++ l[i]) (by rw [app_size]; omega)
            simp only [eq_iff_iff, iff_true] at ih'
            simp only [z, q2, decide_true, decide_false, Bool.not_false, if_true, Option.bind_some, beq_self_eq_true, bne_self_eq_false, Bool.false_eq_true, if_false, hlim]
            exact ih') e0 (by decide)
  simpa using this
theorem eqEv_refl (e : ApiEvent) : eq_ApiEvent e e = true := by simp [eq_ApiEvent, seq_refl, (eqA_iff _ _).2 rfl]
theorem law08_FileSums_eq (l : List ByteArray) (t : Int) : law08_FileSums l t = some true := by
  unfold law08_FileSums
  simp only [works08, Option.bind_some, Bool.not_true, Bool.false_eq_true, if_false]
  by_cases h1 : (l.length : Int) > 20
  · simp [h1]
  by_cases h2 : t < 0
  · simp [h1, h2]
  by_cases h3 : t > 1099511627776
  · simp [h1, h2, h3]
  have hN : file_New 5 nN = some (5, nN, e0, false, 0, [], 0) := by kernel_rfl
  have ht : timeB t = true := by unfold timeB; simp; omega
  simp only [h1, h2, h3, decide_false, Bool.false_eq_true, if_false, Option.bind_some, hN]
  obtain ⟨r, e1, e2⟩ := sums_l0 l (by omega)
  rw [e1]
  rcases e2 with rfl | ⟨a, ha, rfl⟩
  · rfl
  · have D := Do_eq (fN a) ⟨2, e0, e0, t, 0, 0⟩ 0 small0 (by show a.size ≤ _; omega) (by show (0 : Nat) ≤ 1000; omega)
    have hr : doF (fN a) ⟨2, e0, e0, t, 0, 0⟩ 0 = (⟨5, nN, a, true, t, []⟩, ⟨2, 5, e0, t, a.size, dg a⟩, 0) := by simp [doF, effF, fN, ht, tellF, dg_def]
    rw [hr] at D
    simp only [fN, tupD] at D
    simp only [Option.bind_some, D, if_true, beq_self_eq_true, seq_refl, (dg_eq (show a.size ≤ 1000000000000 by omega)).1, eqEv_refl]
end Go.Cen
