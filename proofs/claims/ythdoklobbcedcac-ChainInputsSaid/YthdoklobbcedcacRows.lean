/-
  No cell of these rows narrows 'for every input' (looked for: loops, veiled, ifaces, maps, wideKeys, modest, calm, conditions, laid).
  DERIVED. THE GIVEN ROWS OF THIS SEAT. 5 by the template 'for every input the law returns true; each argument reads behind the call as it read before'; 0 by the template 'total and deterministic' (their statements: YthdoklobbcedcacTotals.lean).
  GIVEN WITH THE SEED: the statements are not yours to turn. If you find one false, say at which input.
  Laid BY PROGRAM, IN A SANDBOX (cutbox-rows.mjs): the forced cells as the released guide's own fill.sh prints them over the translation edbecfe0a4c97d26… (all of the seat's roots in one cut). By AI agents, Wed Nov 11 2026. No macro, syntax, notation, axiom, sorry.
-/
import Derived.Test.YthdoklobbcedcacChecked
import GoSem.Claim
import GoSem.ClaimJoined
import GoSem.ClaimMapViews
import Derived.JoinedTies
import Derived.KernelRfl
namespace Go.Proofs.Ythdoklobbcedcac
/- THE CELL 'sum', in the pinned program and in every row, IS THE sha256 OF THE DUMP (.gsa) THAT YthdoklobbcedcacProg.lean LOADS. Nothing in Lean hashes anything: it is a label: what it is worth is what the hold of that sum in a sandbox is worth. -/
noncomputable def Try.pinned : Pinned := { name := "ythdoklobbcedcac", sum := "edbecfe0a4c97d26a937b60912c15bc7f1ed9bcef495bb06b7f52c7088ba9dc3", checked := Try.checked }
namespace Rows
def none {H : Type} : Left H := { results := [], args := [] }

/-- 'cenotaphlaw06.ChainSame': WHATEVER THE INPUT: true; the input reads as it did. -/
def chainSameSpec : ChangeSpec := { name := "chainSame", fn := fun _ => fun
  | [d1, d2] => { results := [.lit (.bool true)], args := [d1, d2] }
  | _ => none }
def chainSameRow : OpenClaim := { program := "ythdoklobbcedcac", sum := "edbecfe0a4c97d26a937b60912c15bc7f1ed9bcef495bb06b7f52c7088ba9dc3", func := "cenotaph/cenotaphlaw06.ChainSame", spec := "chainSame", inPlace := ["math/bits.Add64"], unfollowed := true, recurses := true, apart := false }
def ChainSameSaid : Prop := chainSameRow.holds Try.pinned (OpenSpec.ofChange chainSameSpec)

/-- ITS FALSE NEIGHBOUR: 'it returns false'. Refute it at one input. -/
def chainSameWrong : ChangeSpec := { name := "chainSame", fn := fun _ => fun
  | [d1, d2] => { results := [.lit (.bool false)], args := [d1, d2] }
  | _ => none }
def ChainSameWrongFalsely : Prop := chainSameRow.holds Try.pinned (OpenSpec.ofChange chainSameWrong)

/-- 'cenotaphlaw06.ChainParts': WHATEVER THE INPUT: true; the input reads as it did. -/
def chainPartsSpec : ChangeSpec := { name := "chainParts", fn := fun _ => fun
  | [d1, d2, d3] => { results := [.lit (.bool true)], args := [d1, d2, d3] }
  | _ => none }
def chainPartsRow : OpenClaim := { program := "ythdoklobbcedcac", sum := "edbecfe0a4c97d26a937b60912c15bc7f1ed9bcef495bb06b7f52c7088ba9dc3", func := "cenotaph/cenotaphlaw06.ChainParts", spec := "chainParts", inPlace := ["math/bits.Add64"], unfollowed := true, recurses := true, apart := false }
def ChainPartsSaid : Prop := chainPartsRow.holds Try.pinned (OpenSpec.ofChange chainPartsSpec)

/-- ITS FALSE NEIGHBOUR: 'it returns false'. Refute it at one input. -/
def chainPartsWrong : ChangeSpec := { name := "chainParts", fn := fun _ => fun
  | [d1, d2, d3] => { results := [.lit (.bool false)], args := [d1, d2, d3] }
  | _ => none }
def ChainPartsWrongFalsely : Prop := chainPartsRow.holds Try.pinned (OpenSpec.ofChange chainPartsWrong)

/-- 'cenotaphlaw06.ChainFirsts': WHATEVER THE INPUT: true; the input reads as it did. -/
def chainFirstsSpec : ChangeSpec := { name := "chainFirsts", fn := fun _ => fun
  | [d1, d2] => { results := [.lit (.bool true)], args := [d1, d2] }
  | _ => none }
def chainFirstsRow : OpenClaim := { program := "ythdoklobbcedcac", sum := "edbecfe0a4c97d26a937b60912c15bc7f1ed9bcef495bb06b7f52c7088ba9dc3", func := "cenotaph/cenotaphlaw06.ChainFirsts", spec := "chainFirsts", inPlace := ["math/bits.Add64"], unfollowed := true, recurses := true, apart := false }
def ChainFirstsSaid : Prop := chainFirstsRow.holds Try.pinned (OpenSpec.ofChange chainFirstsSpec)

/-- ITS FALSE NEIGHBOUR: 'it returns false'. Refute it at one input. -/
def chainFirstsWrong : ChangeSpec := { name := "chainFirsts", fn := fun _ => fun
  | [d1, d2] => { results := [.lit (.bool false)], args := [d1, d2] }
  | _ => none }
def ChainFirstsWrongFalsely : Prop := chainFirstsRow.holds Try.pinned (OpenSpec.ofChange chainFirstsWrong)

/-- 'cenotaphlaw06.ChainCollide': WHATEVER THE INPUT: true; the input reads as it did. -/
def chainCollideSpec : ChangeSpec := { name := "chainCollide", fn := fun _ => fun
  | [d1, d2] => { results := [.lit (.bool true)], args := [d1, d2] }
  | _ => none }
def chainCollideRow : OpenClaim := { program := "ythdoklobbcedcac", sum := "edbecfe0a4c97d26a937b60912c15bc7f1ed9bcef495bb06b7f52c7088ba9dc3", func := "cenotaph/cenotaphlaw06.ChainCollide", spec := "chainCollide", inPlace := ["math/bits.Add64"], unfollowed := true, recurses := true, apart := false }
def ChainCollideSaid : Prop := chainCollideRow.holds Try.pinned (OpenSpec.ofChange chainCollideSpec)

/-- ITS FALSE NEIGHBOUR: 'it returns false'. Refute it at one input. -/
def chainCollideWrong : ChangeSpec := { name := "chainCollide", fn := fun _ => fun
  | [d1, d2] => { results := [.lit (.bool false)], args := [d1, d2] }
  | _ => none }
def ChainCollideWrongFalsely : Prop := chainCollideRow.holds Try.pinned (OpenSpec.ofChange chainCollideWrong)

/-- 'cenotaphlaw06.ChainInputs': WHATEVER THE INPUT: true; the input reads as it did. -/
def chainInputsSpec : ChangeSpec := { name := "chainInputs", fn := fun _ => fun
  | [d1, d2] => { results := [.lit (.bool true)], args := [d1, d2] }
  | _ => none }
def chainInputsRow : OpenClaim := { program := "ythdoklobbcedcac", sum := "edbecfe0a4c97d26a937b60912c15bc7f1ed9bcef495bb06b7f52c7088ba9dc3", func := "cenotaph/cenotaphlaw06.ChainInputs", spec := "chainInputs", inPlace := ["math/bits.Add64"], unfollowed := true, recurses := true, apart := false }
def ChainInputsSaid : Prop := chainInputsRow.holds Try.pinned (OpenSpec.ofChange chainInputsSpec)

/-- ITS FALSE NEIGHBOUR: 'it returns false'. Refute it at one input. -/
def chainInputsWrong : ChangeSpec := { name := "chainInputs", fn := fun _ => fun
  | [d1, d2] => { results := [.lit (.bool false)], args := [d1, d2] }
  | _ => none }
def ChainInputsWrongFalsely : Prop := chainInputsRow.holds Try.pinned (OpenSpec.ofChange chainInputsWrong)

/- THE SECOND FORM. 'bulk': how many values and letters a reading holds, each counted each time it is reached (what is shared counts as often as it is met; a slice's spare places count too). A statement '..UptoSaid' is the law's where the arguments, and the package variables that the reading takes, are together of bulk at most 1048576: NARROWER than '..Said'. Prove '..Said' where nothing that the law and all that it calls make is longer than what came in: it says more and counts as full. Else prove '..UptoSaid'. A law counts once. -/
mutual
def uptoBulk {H : Type} : DataW H → Nat
  | .lit (.string bytes) => bytes.length + 1
  | .lit _ => 1
  | .nil => 1
  | .ptr d => uptoBulk d + 1
  | .slice elems spare => uptoBulkAll elems + uptoBulkAll spare + 1
  | .agg parts => uptoBulkAll parts + 1
  | .iface _ d => uptoBulk d + 1
  | .map entries => uptoBulkEntries entries + 1
  | .held _ => 1
def uptoBulkAll {H : Type} : List (DataW H) → Nat
  | [] => 0
  | d :: r => uptoBulk d + uptoBulkAll r
def uptoBulkEntries {H : Type} : List (Lit × DataW H) → Nat
  | [] => 0
  | x :: r => uptoBulkEntry x + uptoBulkEntries r
def uptoBulkEntry {H : Type} : Lit × DataW H → Nat
  | (.string bytes, d) => bytes.length + uptoBulk d + 1
  | (_, d) => uptoBulk d + 1
 end
def uptoSmall : (H : Type) → List (DataW H) → Bool := fun _ ds => decide (uptoBulkAll ds ≤ 1048576)
def OpenSpec.upto (s : _root_.Go.ChangeSpec) : _root_.Go.OpenSpec := { _root_.Go.OpenSpec.ofChange s with cond := some uptoSmall }

/-- 'cenotaphlaw06.ChainSame', WHERE WHAT IT READS IS OF BULK AT MOST 1048576: true; the input reads as it did. -/
def chainSameUptoRow : OpenClaim := { program := "ythdoklobbcedcac", sum := "edbecfe0a4c97d26a937b60912c15bc7f1ed9bcef495bb06b7f52c7088ba9dc3", func := "cenotaph/cenotaphlaw06.ChainSame", spec := "chainSame", inPlace := ["math/bits.Add64"], unfollowed := true, recurses := true, apart := false, narrowed := true }
def ChainSameUptoSaid : Prop := chainSameUptoRow.holds Try.pinned (OpenSpec.upto chainSameSpec)

/-- 'cenotaphlaw06.ChainParts', WHERE WHAT IT READS IS OF BULK AT MOST 1048576: true; the input reads as it did. -/
def chainPartsUptoRow : OpenClaim := { program := "ythdoklobbcedcac", sum := "edbecfe0a4c97d26a937b60912c15bc7f1ed9bcef495bb06b7f52c7088ba9dc3", func := "cenotaph/cenotaphlaw06.ChainParts", spec := "chainParts", inPlace := ["math/bits.Add64"], unfollowed := true, recurses := true, apart := false, narrowed := true }
def ChainPartsUptoSaid : Prop := chainPartsUptoRow.holds Try.pinned (OpenSpec.upto chainPartsSpec)

/-- 'cenotaphlaw06.ChainFirsts', WHERE WHAT IT READS IS OF BULK AT MOST 1048576: true; the input reads as it did. -/
def chainFirstsUptoRow : OpenClaim := { program := "ythdoklobbcedcac", sum := "edbecfe0a4c97d26a937b60912c15bc7f1ed9bcef495bb06b7f52c7088ba9dc3", func := "cenotaph/cenotaphlaw06.ChainFirsts", spec := "chainFirsts", inPlace := ["math/bits.Add64"], unfollowed := true, recurses := true, apart := false, narrowed := true }
def ChainFirstsUptoSaid : Prop := chainFirstsUptoRow.holds Try.pinned (OpenSpec.upto chainFirstsSpec)

/-- 'cenotaphlaw06.ChainCollide', WHERE WHAT IT READS IS OF BULK AT MOST 1048576: true; the input reads as it did. -/
def chainCollideUptoRow : OpenClaim := { program := "ythdoklobbcedcac", sum := "edbecfe0a4c97d26a937b60912c15bc7f1ed9bcef495bb06b7f52c7088ba9dc3", func := "cenotaph/cenotaphlaw06.ChainCollide", spec := "chainCollide", inPlace := ["math/bits.Add64"], unfollowed := true, recurses := true, apart := false, narrowed := true }
def ChainCollideUptoSaid : Prop := chainCollideUptoRow.holds Try.pinned (OpenSpec.upto chainCollideSpec)

/-- 'cenotaphlaw06.ChainInputs', WHERE WHAT IT READS IS OF BULK AT MOST 1048576: true; the input reads as it did. -/
def chainInputsUptoRow : OpenClaim := { program := "ythdoklobbcedcac", sum := "edbecfe0a4c97d26a937b60912c15bc7f1ed9bcef495bb06b7f52c7088ba9dc3", func := "cenotaph/cenotaphlaw06.ChainInputs", spec := "chainInputs", inPlace := ["math/bits.Add64"], unfollowed := true, recurses := true, apart := false, narrowed := true }
def ChainInputsUptoSaid : Prop := chainInputsUptoRow.holds Try.pinned (OpenSpec.upto chainInputsSpec)

end Rows
end Go.Proofs.Ythdoklobbcedcac
