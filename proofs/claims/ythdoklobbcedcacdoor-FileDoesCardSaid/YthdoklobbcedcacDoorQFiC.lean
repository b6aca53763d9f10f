/- FILE: which may be; what is sealed stays. -/
import Derived.Test.YthdoklobbcedcacDoorQFiB
set_option linter.unusedVariables false
set_option linter.unusedSimpArgs false
set_option maxRecDepth 100000
namespace Go.Cen
theorem rvN_eq {s : ByteArray} (h : s.size ≤ 1000) : ref03_Valid s = some (vN s) := by
  have := ref03_Valid_str (l := byts s) (byts_isB s) (by rw [byts_len]; omega)
  rwa [strOfNums_byts] at this
/-! ### whatever is done -/
def fewO (f : Fi) (o : ApiOp) : Bool := fewB f.nm f.da f.ho && (decide (o.Text.size ≤ 700) && decide (o.Name.size ≤ 700))
theorem fewO_eq (f : Fi) (o : ApiOp) : law08_few f.id f.nm f.da f.sd f.un f.ho o = some (fewO f o) := by
  unfold law08_few fewO
  rw [Few7_eq]
  cases fewB f.nm f.da f.ho with
  | false => rfl
  | true =>
    have e1 : decide ((o.Text.size : Int) ≤ 700) = decide (o.Text.size ≤ 700) := decide_eq_decide.2 (by omega)
    have e2 : decide ((o.Name.size : Int) ≤ 700) = decide (o.Name.size ≤ 700) := decide_eq_decide.2 (by omega)
    simp only [Option.bind_some, if_true, e1, e2, Bool.true_and]
    cases decide (o.Text.size ≤ 700) <;> rfl
end Go.Cen
