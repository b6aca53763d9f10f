/- EVENT: bytes; the reference. -/
import Derived.Test.YtjbofffabkimeaaAEvB
import Derived.Test.YtjbofffabkimeaaAShaF
set_option linter.unusedVariables false
set_option linter.unusedSimpArgs false
namespace Go.Cen
def putE (e : ApiEvent) : List Int := numL (clampN e.Kind) ++ (partsE e).flatMap bytD
def putR (e : ApiEvent) : ByteArray × Bool := if validE e then (strOfNums (putE e), true) else (⟨#[]⟩, false)
theorem event_Put_eq {e : ApiEvent} (h : okE e) : event_Put e = some (putR e) := by
  have hp := parts_ok h
  have hl := parts_len e
  have hc := clampN_len e.Kind
  unfold event_Put putR
  rw [event_Valid_eq h]
  cases validE e with
  | false => rfl
  | true =>
    simp only [Option.bind_some, Bool.not_true, Bool.false_eq_true, if_false, wire_Num_eq, parts_eq, if_true]
    rw [put_l0 _ hp (by omega) _ (by omega)]
    rfl
end Go.Cen
