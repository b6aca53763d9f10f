/- ROOT: the law of Put. -/
import Derived.Test.YthdoklobbcedcabRootD
set_option linter.unusedVariables false
set_option linter.unusedSimpArgs false
namespace Go.Cen
theorem works15 : law15_works = some true := by decide +kernel
theorem law15_RootPuts_eq (M : List RootEntry) (G : List Int) (N : List RootEntry) (H : List Int) (room : Int) : law15_RootPuts M G N H room = some true := by
  unfold law15_RootPuts
  rw [works15]
  simp only [Option.bind_some, Bool.not_true, Bool.false_eq_true, if_false, orS, if_true]
  by_cases hc : (decide ((M.length : Int) > 60) || (decide ((G.length : Int) > 60) || (decide ((N.length : Int) > 60) || decide ((H.length : Int) > 60)))) = true
  · rw [if_pos hc]
  · rw [if_neg hc]
    simp only [Bool.or_eq_true, decide_eq_true_eq] at hc
    have hM : M.length ≤ 60 := by omega
    have hG : G.length ≤ 60 := by omega
    have hN : N.length ≤ 60 := by omega
    have hH : H.length ≤ 60 := by omega
    rw [law15_Of_eq M G (by omega), law15_Of_eq N H (by omega)]
    simp only [Option.bind_some]
    rw [ref15_Valid_eq, ref15_Same_eq _ _ _ _ (by simp; omega) (by omega), root_Valid_eq, root_Same_eq _ _ _ _ (by omega) (by omega), root_Put_eq, ref15_Put_eq]
    simp only [Option.bind_some, map_toR, BEq.rfl, if_true]
    rw [ref07_Texts_eq _ _ (by have := putQ_len (M.map qM) G room; omega)]
    simp
end Go.Cen
