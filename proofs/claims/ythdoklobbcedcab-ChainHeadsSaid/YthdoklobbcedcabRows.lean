/-
  No cell of these rows narrows 'for every input' (looked for: loops, veiled, ifaces, maps, wideKeys, modest, calm, conditions, laid).
  DERIVED. THE GIVEN ROWS OF THIS SEAT. 7 by the template 'for every input the law returns true; each argument reads behind the call as it read before'; 0 by the template 'total and deterministic' (their statements: YthdoklobbcedcabTotals.lean).
  GIVEN WITH THE SEED: the statements are not yours to turn. If you find one false, say at which input.
  Laid BY PROGRAM, IN A SANDBOX (cutbox-rows.mjs): the forced cells as the released guide's own fill.sh prints them over the translation 2bcfb4afed799930… (all of the seat's roots in one cut). By AI agents, Wed Nov 11 2026. No macro, syntax, notation, axiom, sorry.
-/
import Derived.Test.YthdoklobbcedcabChecked
import GoSem.Claim
import GoSem.ClaimJoined
import GoSem.ClaimMapViews
import Derived.JoinedTies
import Derived.KernelRfl
namespace Go.Proofs.Ythdoklobbcedcab
/- THE CELL 'sum', in the pinned program and in every row, IS THE sha256 OF THE DUMP (.gsa) THAT YthdoklobbcedcabProg.lean LOADS. Nothing in Lean hashes anything: it is a label: what it is worth is what the hold of that sum in a sandbox is worth. -/
noncomputable def Try.pinned : Pinned := { name := "ythdoklobbcedcab", sum := "2bcfb4afed799930955cd5e24848a030b0e799ca7b6b165e34ee5f3e157696ea", checked := Try.checked }
namespace Rows
def none {H : Type} : Left H := { results := [], args := [] }

/-- 'cenotaphlaw15.RootPuts': WHATEVER THE INPUT: true; the input reads as it did. -/
def rootPutsSpec : ChangeSpec := { name := "rootPuts", fn := fun _ => fun
  | [d1, d2, d3] => { results := [.lit (.bool true)], args := [d1, d2, d3] }
  | _ => none }
def rootPutsRow : OpenClaim := { program := "ythdoklobbcedcab", sum := "2bcfb4afed799930955cd5e24848a030b0e799ca7b6b165e34ee5f3e157696ea", func := "cenotaph/cenotaphlaw15.RootPuts", spec := "rootPuts", inPlace := ["internal/abi.NoEscape"], unfollowed := true, recurses := true, apart := false }
def RootPutsSaid : Prop := rootPutsRow.holds Try.pinned (OpenSpec.ofChange rootPutsSpec)

/-- ITS FALSE NEIGHBOUR: 'it returns false'. Refute it at one input. -/
def rootPutsWrong : ChangeSpec := { name := "rootPuts", fn := fun _ => fun
  | [d1, d2, d3] => { results := [.lit (.bool false)], args := [d1, d2, d3] }
  | _ => none }
def RootPutsWrongFalsely : Prop := rootPutsRow.holds Try.pinned (OpenSpec.ofChange rootPutsWrong)

/-- 'cenotaphlaw15.RootGets': WHATEVER THE INPUT: true; the input reads as it did. -/
def rootGetsSpec : ChangeSpec := { name := "rootGets", fn := fun _ => fun
  | [d] => { results := [.lit (.bool true)], args := [d] }
  | _ => none }
def rootGetsRow : OpenClaim := { program := "ythdoklobbcedcab", sum := "2bcfb4afed799930955cd5e24848a030b0e799ca7b6b165e34ee5f3e157696ea", func := "cenotaph/cenotaphlaw15.RootGets", spec := "rootGets", inPlace := ["internal/abi.NoEscape"], unfollowed := true, recurses := true, apart := false }
def RootGetsSaid : Prop := rootGetsRow.holds Try.pinned (OpenSpec.ofChange rootGetsSpec)

/-- ITS FALSE NEIGHBOUR: 'it returns false'. Refute it at one input. -/
def rootGetsWrong : ChangeSpec := { name := "rootGets", fn := fun _ => fun
  | [d] => { results := [.lit (.bool false)], args := [d] }
  | _ => none }
def RootGetsWrongFalsely : Prop := rootGetsRow.holds Try.pinned (OpenSpec.ofChange rootGetsWrong)

/-- 'cenotaphlaw15.RootBack': WHATEVER THE INPUT: true; the input reads as it did. -/
def rootBackSpec : ChangeSpec := { name := "rootBack", fn := fun _ => fun
  | [d1, d2, d3] => { results := [.lit (.bool true)], args := [d1, d2, d3] }
  | _ => none }
def rootBackRow : OpenClaim := { program := "ythdoklobbcedcab", sum := "2bcfb4afed799930955cd5e24848a030b0e799ca7b6b165e34ee5f3e157696ea", func := "cenotaph/cenotaphlaw15.RootBack", spec := "rootBack", inPlace := ["internal/abi.NoEscape"], unfollowed := true, recurses := true, apart := false }
def RootBackSaid : Prop := rootBackRow.holds Try.pinned (OpenSpec.ofChange rootBackSpec)

/-- ITS FALSE NEIGHBOUR: 'it returns false'. Refute it at one input. -/
def rootBackWrong : ChangeSpec := { name := "rootBack", fn := fun _ => fun
  | [d1, d2, d3] => { results := [.lit (.bool false)], args := [d1, d2, d3] }
  | _ => none }
def RootBackWrongFalsely : Prop := rootBackRow.holds Try.pinned (OpenSpec.ofChange rootBackWrong)

/-- 'cenotaphlaw15.RootStays': WHATEVER THE INPUT: true; the input reads as it did. -/
def rootStaysSpec : ChangeSpec := { name := "rootStays", fn := fun _ => fun
  | [d1, d2, d3] => { results := [.lit (.bool true)], args := [d1, d2, d3] }
  | _ => none }
def rootStaysRow : OpenClaim := { program := "ythdoklobbcedcab", sum := "2bcfb4afed799930955cd5e24848a030b0e799ca7b6b165e34ee5f3e157696ea", func := "cenotaph/cenotaphlaw15.RootStays", spec := "rootStays", inPlace := ["internal/abi.NoEscape"], unfollowed := true, recurses := true, apart := false }
def RootStaysSaid : Prop := rootStaysRow.holds Try.pinned (OpenSpec.ofChange rootStaysSpec)

/-- ITS FALSE NEIGHBOUR: 'it returns false'. Refute it at one input. -/
def rootStaysWrong : ChangeSpec := { name := "rootStays", fn := fun _ => fun
  | [d1, d2, d3] => { results := [.lit (.bool false)], args := [d1, d2, d3] }
  | _ => none }
def RootStaysWrongFalsely : Prop := rootStaysRow.holds Try.pinned (OpenSpec.ofChange rootStaysWrong)

/-- 'cenotaphlaw15.RootFinds': WHATEVER THE INPUT: true; the input reads as it did. -/
def rootFindsSpec : ChangeSpec := { name := "rootFinds", fn := fun _ => fun
  | [d1, d2, d3] => { results := [.lit (.bool true)], args := [d1, d2, d3] }
  | _ => none }
def rootFindsRow : OpenClaim := { program := "ythdoklobbcedcab", sum := "2bcfb4afed799930955cd5e24848a030b0e799ca7b6b165e34ee5f3e157696ea", func := "cenotaph/cenotaphlaw15.RootFinds", spec := "rootFinds", inPlace := ["internal/abi.NoEscape"], unfollowed := true, recurses := true, apart := false }
def RootFindsSaid : Prop := rootFindsRow.holds Try.pinned (OpenSpec.ofChange rootFindsSpec)

/-- ITS FALSE NEIGHBOUR: 'it returns false'. Refute it at one input. -/
def rootFindsWrong : ChangeSpec := { name := "rootFinds", fn := fun _ => fun
  | [d1, d2, d3] => { results := [.lit (.bool false)], args := [d1, d2, d3] }
  | _ => none }
def RootFindsWrongFalsely : Prop := rootFindsRow.holds Try.pinned (OpenSpec.ofChange rootFindsWrong)

/-- 'cenotaphlaw15.RootParts': WHATEVER THE INPUT: true; the input reads as it did. -/
def rootPartsSpec : ChangeSpec := { name := "rootParts", fn := fun _ => fun
  | [d1, d2] => { results := [.lit (.bool true)], args := [d1, d2] }
  | _ => none }
def rootPartsRow : OpenClaim := { program := "ythdoklobbcedcab", sum := "2bcfb4afed799930955cd5e24848a030b0e799ca7b6b165e34ee5f3e157696ea", func := "cenotaph/cenotaphlaw15.RootParts", spec := "rootParts", inPlace := ["internal/abi.NoEscape"], unfollowed := true, recurses := true, apart := false }
def RootPartsSaid : Prop := rootPartsRow.holds Try.pinned (OpenSpec.ofChange rootPartsSpec)

/-- ITS FALSE NEIGHBOUR: 'it returns false'. Refute it at one input. -/
def rootPartsWrong : ChangeSpec := { name := "rootParts", fn := fun _ => fun
  | [d1, d2] => { results := [.lit (.bool false)], args := [d1, d2] }
  | _ => none }
def RootPartsWrongFalsely : Prop := rootPartsRow.holds Try.pinned (OpenSpec.ofChange rootPartsWrong)

/-- 'cenotaphlaw06.ChainHeads': WHATEVER THE INPUT: true; the input reads as it did. -/
def chainHeadsSpec : ChangeSpec := { name := "chainHeads", fn := fun _ => fun
  | [d1, d2, d3] => { results := [.lit (.bool true)], args := [d1, d2, d3] }
  | _ => none }
def chainHeadsRow : OpenClaim := { program := "ythdoklobbcedcab", sum := "2bcfb4afed799930955cd5e24848a030b0e799ca7b6b165e34ee5f3e157696ea", func := "cenotaph/cenotaphlaw06.ChainHeads", spec := "chainHeads", inPlace := ["math/bits.Add64"], unfollowed := true, recurses := true, apart := false }
def ChainHeadsSaid : Prop := chainHeadsRow.holds Try.pinned (OpenSpec.ofChange chainHeadsSpec)

/-- ITS FALSE NEIGHBOUR: 'it returns false'. Refute it at one input. -/
def chainHeadsWrong : ChangeSpec := { name := "chainHeads", fn := fun _ => fun
  | [d1, d2, d3] => { results := [.lit (.bool false)], args := [d1, d2, d3] }
  | _ => none }
def ChainHeadsWrongFalsely : Prop := chainHeadsRow.holds Try.pinned (OpenSpec.ofChange chainHeadsWrong)

/- THE SECOND FORM. 'bulk': how many values and letters a reading holds, each counted each time it is reached (what is shared counts as often as it is met; a slice's spare places count too). A statement '..UptoSaid' is the law's where the arguments, and the package variables that the reading takes, are together of bulk at most 1048576: NARROWER than '..Said'. Prove '..Said' where nothing that the law and all that it calls make is longer than what came in: it says more and counts as full. Else prove '..UptoSaid'. A law counts once. -/
mutual
def uptoBulk {H : Type} : DataW H → Nat
  | .lit (.string bytes) => bytes.length + 1
  | .lit _ => 1
  | .nil => 1
  | .ptr d => uptoBulk d + 1
  | .slice elems spare => uptoBulkAll elems + uptoBulkAll spare + 1
  | .agg parts => uptoBulkAll parts + 1
  | .iface _ d => uptoBulk d + 1
  | .map entries => uptoBulkEntries entries + 1
  | .held _ => 1
def uptoBulkAll {H : Type} : List (DataW H) → Nat
  | [] => 0
  | d :: r => uptoBulk d + uptoBulkAll r
def uptoBulkEntries {H : Type} : List (Lit × DataW H) → Nat
  | [] => 0
  | x :: r => uptoBulkEntry x + uptoBulkEntries r
def uptoBulkEntry {H : Type} : Lit × DataW H → Nat
  | (.string bytes, d) => bytes.length + uptoBulk d + 1
  | (_, d) => uptoBulk d + 1
 end
def uptoSmall : (H : Type) → List (DataW H) → Bool := fun _ ds => decide (uptoBulkAll ds ≤ 1048576)
def OpenSpec.upto (s : _root_.Go.ChangeSpec) : _root_.Go.OpenSpec := { _root_.Go.OpenSpec.ofChange s with cond := some uptoSmall }

/-- 'cenotaphlaw15.RootPuts', WHERE WHAT IT READS IS OF BULK AT MOST 1048576: true; the input reads as it did. -/
def rootPutsUptoRow : OpenClaim := { program := "ythdoklobbcedcab", sum := "2bcfb4afed799930955cd5e24848a030b0e799ca7b6b165e34ee5f3e157696ea", func := "cenotaph/cenotaphlaw15.RootPuts", spec := "rootPuts", inPlace := ["internal/abi.NoEscape"], unfollowed := true, recurses := true, apart := false, narrowed := true }
def RootPutsUptoSaid : Prop := rootPutsUptoRow.holds Try.pinned (OpenSpec.upto rootPutsSpec)

/-- 'cenotaphlaw15.RootGets', WHERE WHAT IT READS IS OF BULK AT MOST 1048576: true; the input reads as it did. -/
def rootGetsUptoRow : OpenClaim := { program := "ythdoklobbcedcab", sum := "2bcfb4afed799930955cd5e24848a030b0e799ca7b6b165e34ee5f3e157696ea", func := "cenotaph/cenotaphlaw15.RootGets", spec := "rootGets", inPlace := ["internal/abi.NoEscape"], unfollowed := true, recurses := true, apart := false, narrowed := true }
def RootGetsUptoSaid : Prop := rootGetsUptoRow.holds Try.pinned (OpenSpec.upto rootGetsSpec)

/-- 'cenotaphlaw15.RootBack', WHERE WHAT IT READS IS OF BULK AT MOST 1048576: true; the input reads as it did. -/
def rootBackUptoRow : OpenClaim := { program := "ythdoklobbcedcab", sum := "2bcfb4afed799930955cd5e24848a030b0e799ca7b6b165e34ee5f3e157696ea", func := "cenotaph/cenotaphlaw15.RootBack", spec := "rootBack", inPlace := ["internal/abi.NoEscape"], unfollowed := true, recurses := true, apart := false, narrowed := true }
def RootBackUptoSaid : Prop := rootBackUptoRow.holds Try.pinned (OpenSpec.upto rootBackSpec)

/-- 'cenotaphlaw15.RootStays', WHERE WHAT IT READS IS OF BULK AT MOST 1048576: true; the input reads as it did. -/
def rootStaysUptoRow : OpenClaim := { program := "ythdoklobbcedcab", sum := "2bcfb4afed799930955cd5e24848a030b0e799ca7b6b165e34ee5f3e157696ea", func := "cenotaph/cenotaphlaw15.RootStays", spec := "rootStays", inPlace := ["internal/abi.NoEscape"], unfollowed := true, recurses := true, apart := false, narrowed := true }
def RootStaysUptoSaid : Prop := rootStaysUptoRow.holds Try.pinned (OpenSpec.upto rootStaysSpec)

/-- 'cenotaphlaw15.RootFinds', WHERE WHAT IT READS IS OF BULK AT MOST 1048576: true; the input reads as it did. -/
def rootFindsUptoRow : OpenClaim := { program := "ythdoklobbcedcab", sum := "2bcfb4afed799930955cd5e24848a030b0e799ca7b6b165e34ee5f3e157696ea", func := "cenotaph/cenotaphlaw15.RootFinds", spec := "rootFinds", inPlace := ["internal/abi.NoEscape"], unfollowed := true, recurses := true, apart := false, narrowed := true }
def RootFindsUptoSaid : Prop := rootFindsUptoRow.holds Try.pinned (OpenSpec.upto rootFindsSpec)

/-- 'cenotaphlaw15.RootParts', WHERE WHAT IT READS IS OF BULK AT MOST 1048576: true; the input reads as it did. -/
def rootPartsUptoRow : OpenClaim := { program := "ythdoklobbcedcab", sum := "2bcfb4afed799930955cd5e24848a030b0e799ca7b6b165e34ee5f3e157696ea", func := "cenotaph/cenotaphlaw15.RootParts", spec := "rootParts", inPlace := ["internal/abi.NoEscape"], unfollowed := true, recurses := true, apart := false, narrowed := true }
def RootPartsUptoSaid : Prop := rootPartsUptoRow.holds Try.pinned (OpenSpec.upto rootPartsSpec)

/-- 'cenotaphlaw06.ChainHeads', WHERE WHAT IT READS IS OF BULK AT MOST 1048576: true; the input reads as it did. -/
def chainHeadsUptoRow : OpenClaim := { program := "ythdoklobbcedcab", sum := "2bcfb4afed799930955cd5e24848a030b0e799ca7b6b165e34ee5f3e157696ea", func := "cenotaph/cenotaphlaw06.ChainHeads", spec := "chainHeads", inPlace := ["math/bits.Add64"], unfollowed := true, recurses := true, apart := false, narrowed := true }
def ChainHeadsUptoSaid : Prop := chainHeadsUptoRow.holds Try.pinned (OpenSpec.upto chainHeadsSpec)

end Rows
end Go.Proofs.Ythdoklobbcedcab
