/- FILE: what a file comes to. -/
import Derived.Test.YthdoklobbcedcadDoorFRuB
import Derived.Test.YthdoklobbcedcadDoorFShaB
set_option linter.unusedVariables false
set_option linter.unusedSimpArgs false
set_option maxRecDepth 100000
namespace Go.Cen
structure Fi where
  id : Int
  nm : ByteArray
  da : ByteArray
  sd : Bool
  un : Int
  ho : List ByteArray
abbrev e0 : ByteArray := ⟨#[]⟩
def appF (sd : Bool) (da s : ByteArray) : ByteArray × Int := if sd = true then (da, 5) else if s = e0 then (da, 1) else if 600 < da.size + s.size then (da, 10) else (da ++ s, 0)
theorem seq_e0 (s : ByteArray) : seq s (⟨#[]⟩ : ByteArray) = decide (s = e0) := by
  by_cases h : s = e0
  · rw [h, seq_refl]; simp
  · cases q : seq s (⟨#[]⟩ : ByteArray) with
    | true => exact absurd ((seq_iff s _).1 q) h
    | false => simp [h]
theorem Append_eq (f : Fi) (s : ByteArray) (h1 : f.da.size ≤ 1000000) (h2 : s.size ≤ 1000000) : file_Append f.id f.nm f.da f.sd f.un f.ho s = some (f.id, f.nm, (appF f.sd f.da s).1, f.sd, f.un, f.ho, (appF f.sd f.da s).2) := by
  have hL : LIM = 1099511627776 := rfl
  unfold file_Append appF
  rw [seq_e0, wi64_id (by omega)]
  cases f.sd with
  | true => rfl
  | false =>
    by_cases hs : s = e0
    · simp [hs]
    · by_cases hm : 600 < f.da.size + s.size
      · have : (f.da.size : Int) + (s.size : Int) > 600 := by omega
        simp [hs, hm, this]
      · have : ¬ (f.da.size : Int) + (s.size : Int) > 600 := by omega
        have h3 : f.da.size + s.size ≤ LIM := by omega
        simp [hs, hm, this, h3]
theorem works08 : law08_works = some true := by decide +kernel
end Go.Cen
