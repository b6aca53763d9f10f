/-
  No cell of these rows narrows 'for every input' (looked for: loops, veiled, ifaces, maps, wideKeys, modest, calm, conditions, laid).
  DERIVED. THE GIVEN ROWS OF THIS SEAT. 6 by the template 'for every input the law returns true; each argument reads behind the call as it read before'; 0 by the template 'total and deterministic' (their statements: YthdoklobbcedcadTotals.lean).
  GIVEN WITH THE SEED: the statements are not yours to turn. If you find one false, say at which input.
  Laid BY PROGRAM, IN A SANDBOX (cutbox-rows.mjs): the forced cells as the released guide's own fill.sh prints them over the translation eaf547ce4e27aba7… (all of the seat's roots in one cut). By AI agents, Wed Nov 11 2026. No macro, syntax, notation, axiom, sorry.
-/
import Derived.Test.YthdoklobbcedcadChecked
import GoSem.Claim
import GoSem.ClaimJoined
import GoSem.ClaimMapViews
import Derived.JoinedTies
import Derived.KernelRfl
namespace Go.Proofs.Ythdoklobbcedcad
/- THE CELL 'sum', in the pinned program and in every row, IS THE sha256 OF THE DUMP (.gsa) THAT YthdoklobbcedcadProg.lean LOADS. Nothing in Lean hashes anything: it is a label: what it is worth is what the hold of that sum in a sandbox is worth. -/
noncomputable def Try.pinned : Pinned := { name := "ythdoklobbcedcad", sum := "eaf547ce4e27aba79a27caa10dda3fb4b0d225ea8a22043bda4a8d8d63653767", checked := Try.checked }
namespace Rows
def none {H : Type} : Left H := { results := [], args := [] }

/-- 'cenotaphlaw05.EventPuts': WHATEVER THE INPUT: true; the input reads as it did. -/
def eventPutsSpec : ChangeSpec := { name := "eventPuts", fn := fun _ => fun
  | [d] => { results := [.lit (.bool true)], args := [d] }
  | _ => none }
def eventPutsRow : OpenClaim := { program := "ythdoklobbcedcad", sum := "eaf547ce4e27aba79a27caa10dda3fb4b0d225ea8a22043bda4a8d8d63653767", func := "cenotaph/cenotaphlaw05.EventPuts", spec := "eventPuts", unfollowed := true, recurses := true, apart := false }
def EventPutsSaid : Prop := eventPutsRow.holds Try.pinned (OpenSpec.ofChange eventPutsSpec)

/-- ITS FALSE NEIGHBOUR: 'it returns false'. Refute it at one input. -/
def eventPutsWrong : ChangeSpec := { name := "eventPuts", fn := fun _ => fun
  | [d] => { results := [.lit (.bool false)], args := [d] }
  | _ => none }
def EventPutsWrongFalsely : Prop := eventPutsRow.holds Try.pinned (OpenSpec.ofChange eventPutsWrong)

/-- 'cenotaphlaw05.EventGets': WHATEVER THE INPUT: true; the input reads as it did. -/
def eventGetsSpec : ChangeSpec := { name := "eventGets", fn := fun _ => fun
  | [d] => { results := [.lit (.bool true)], args := [d] }
  | _ => none }
def eventGetsRow : OpenClaim := { program := "ythdoklobbcedcad", sum := "eaf547ce4e27aba79a27caa10dda3fb4b0d225ea8a22043bda4a8d8d63653767", func := "cenotaph/cenotaphlaw05.EventGets", spec := "eventGets", unfollowed := true, recurses := true, apart := false }
def EventGetsSaid : Prop := eventGetsRow.holds Try.pinned (OpenSpec.ofChange eventGetsSpec)

/-- ITS FALSE NEIGHBOUR: 'it returns false'. Refute it at one input. -/
def eventGetsWrong : ChangeSpec := { name := "eventGets", fn := fun _ => fun
  | [d] => { results := [.lit (.bool false)], args := [d] }
  | _ => none }
def EventGetsWrongFalsely : Prop := eventGetsRow.holds Try.pinned (OpenSpec.ofChange eventGetsWrong)

/-- 'cenotaphlaw05.EventBack': WHATEVER THE INPUT: true; the input reads as it did. -/
def eventBackSpec : ChangeSpec := { name := "eventBack", fn := fun _ => fun
  | [d1, d2] => { results := [.lit (.bool true)], args := [d1, d2] }
  | _ => none }
def eventBackRow : OpenClaim := { program := "ythdoklobbcedcad", sum := "eaf547ce4e27aba79a27caa10dda3fb4b0d225ea8a22043bda4a8d8d63653767", func := "cenotaph/cenotaphlaw05.EventBack", spec := "eventBack", unfollowed := true, recurses := true, apart := false }
def EventBackSaid : Prop := eventBackRow.holds Try.pinned (OpenSpec.ofChange eventBackSpec)

/-- ITS FALSE NEIGHBOUR: 'it returns false'. Refute it at one input. -/
def eventBackWrong : ChangeSpec := { name := "eventBack", fn := fun _ => fun
  | [d1, d2] => { results := [.lit (.bool false)], args := [d1, d2] }
  | _ => none }
def EventBackWrongFalsely : Prop := eventBackRow.holds Try.pinned (OpenSpec.ofChange eventBackWrong)

/-- 'cenotaphlaw05.EventApart': WHATEVER THE INPUT: true; the input reads as it did. -/
def eventApartSpec : ChangeSpec := { name := "eventApart", fn := fun _ => fun
  | [d1, d2] => { results := [.lit (.bool true)], args := [d1, d2] }
  | _ => none }
def eventApartRow : OpenClaim := { program := "ythdoklobbcedcad", sum := "eaf547ce4e27aba79a27caa10dda3fb4b0d225ea8a22043bda4a8d8d63653767", func := "cenotaph/cenotaphlaw05.EventApart", spec := "eventApart", unfollowed := true, recurses := true, apart := false }
def EventApartSaid : Prop := eventApartRow.holds Try.pinned (OpenSpec.ofChange eventApartSpec)

/-- ITS FALSE NEIGHBOUR: 'it returns false'. Refute it at one input. -/
def eventApartWrong : ChangeSpec := { name := "eventApart", fn := fun _ => fun
  | [d1, d2] => { results := [.lit (.bool false)], args := [d1, d2] }
  | _ => none }
def EventApartWrongFalsely : Prop := eventApartRow.holds Try.pinned (OpenSpec.ofChange eventApartWrong)

/-- 'cenotaphlaw05.EventLong': WHATEVER THE INPUT: true; the input reads as it did. -/
def eventLongSpec : ChangeSpec := { name := "eventLong", fn := fun _ => fun
  | [d] => { results := [.lit (.bool true)], args := [d] }
  | _ => none }
def eventLongRow : OpenClaim := { program := "ythdoklobbcedcad", sum := "eaf547ce4e27aba79a27caa10dda3fb4b0d225ea8a22043bda4a8d8d63653767", func := "cenotaph/cenotaphlaw05.EventLong", spec := "eventLong", unfollowed := true, recurses := true, apart := false }
def EventLongSaid : Prop := eventLongRow.holds Try.pinned (OpenSpec.ofChange eventLongSpec)

/-- ITS FALSE NEIGHBOUR: 'it returns false'. Refute it at one input. -/
def eventLongWrong : ChangeSpec := { name := "eventLong", fn := fun _ => fun
  | [d] => { results := [.lit (.bool false)], args := [d] }
  | _ => none }
def EventLongWrongFalsely : Prop := eventLongRow.holds Try.pinned (OpenSpec.ofChange eventLongWrong)

/-- 'cenotaphlaw05.EventOther': WHATEVER THE INPUT: true; the input reads as it did. -/
def eventOtherSpec : ChangeSpec := { name := "eventOther", fn := fun _ => fun
  | [d1, d2, d3] => { results := [.lit (.bool true)], args := [d1, d2, d3] }
  | _ => none }
def eventOtherRow : OpenClaim := { program := "ythdoklobbcedcad", sum := "eaf547ce4e27aba79a27caa10dda3fb4b0d225ea8a22043bda4a8d8d63653767", func := "cenotaph/cenotaphlaw05.EventOther", spec := "eventOther", unfollowed := true, recurses := true, apart := false }
def EventOtherSaid : Prop := eventOtherRow.holds Try.pinned (OpenSpec.ofChange eventOtherSpec)

/-- ITS FALSE NEIGHBOUR: 'it returns false'. Refute it at one input. -/
def eventOtherWrong : ChangeSpec := { name := "eventOther", fn := fun _ => fun
  | [d1, d2, d3] => { results := [.lit (.bool false)], args := [d1, d2, d3] }
  | _ => none }
def EventOtherWrongFalsely : Prop := eventOtherRow.holds Try.pinned (OpenSpec.ofChange eventOtherWrong)

/- THE SECOND FORM. 'bulk': how many values and letters a reading holds, each counted each time it is reached (what is shared counts as often as it is met; a slice's spare places count too). A statement '..UptoSaid' is the law's where the arguments, and the package variables that the reading takes, are together of bulk at most 1048576: NARROWER than '..Said'. Prove '..Said' where nothing that the law and all that it calls make is longer than what came in: it says more and counts as full. Else prove '..UptoSaid'. A law counts once. -/
mutual
def uptoBulk {H : Type} : DataW H → Nat
  | .lit (.string bytes) => bytes.length + 1
  | .lit _ => 1
  | .nil => 1
  | .ptr d => uptoBulk d + 1
  | .slice elems spare => uptoBulkAll elems + uptoBulkAll spare + 1
  | .agg parts => uptoBulkAll parts + 1
  | .iface _ d => uptoBulk d + 1
  | .map entries => uptoBulkEntries entries + 1
  | .held _ => 1
def uptoBulkAll {H : Type} : List (DataW H) → Nat
  | [] => 0
  | d :: r => uptoBulk d + uptoBulkAll r
def uptoBulkEntries {H : Type} : List (Lit × DataW H) → Nat
  | [] => 0
  | x :: r => uptoBulkEntry x + uptoBulkEntries r
def uptoBulkEntry {H : Type} : Lit × DataW H → Nat
  | (.string bytes, d) => bytes.length + uptoBulk d + 1
  | (_, d) => uptoBulk d + 1
 end
def uptoSmall : (H : Type) → List (DataW H) → Bool := fun _ ds => decide (uptoBulkAll ds ≤ 1048576)
def OpenSpec.upto (s : _root_.Go.ChangeSpec) : _root_.Go.OpenSpec := { _root_.Go.OpenSpec.ofChange s with cond := some uptoSmall }

/-- 'cenotaphlaw05.EventPuts', WHERE WHAT IT READS IS OF BULK AT MOST 1048576: true; the input reads as it did. -/
def eventPutsUptoRow : OpenClaim := { program := "ythdoklobbcedcad", sum := "eaf547ce4e27aba79a27caa10dda3fb4b0d225ea8a22043bda4a8d8d63653767", func := "cenotaph/cenotaphlaw05.EventPuts", spec := "eventPuts", unfollowed := true, recurses := true, apart := false, narrowed := true }
def EventPutsUptoSaid : Prop := eventPutsUptoRow.holds Try.pinned (OpenSpec.upto eventPutsSpec)

/-- 'cenotaphlaw05.EventGets', WHERE WHAT IT READS IS OF BULK AT MOST 1048576: true; the input reads as it did. -/
def eventGetsUptoRow : OpenClaim := { program := "ythdoklobbcedcad", sum := "eaf547ce4e27aba79a27caa10dda3fb4b0d225ea8a22043bda4a8d8d63653767", func := "cenotaph/cenotaphlaw05.EventGets", spec := "eventGets", unfollowed := true, recurses := true, apart := false, narrowed := true }
def EventGetsUptoSaid : Prop := eventGetsUptoRow.holds Try.pinned (OpenSpec.upto eventGetsSpec)

/-- 'cenotaphlaw05.EventBack', WHERE WHAT IT READS IS OF BULK AT MOST 1048576: true; the input reads as it did. -/
def eventBackUptoRow : OpenClaim := { program := "ythdoklobbcedcad", sum := "eaf547ce4e27aba79a27caa10dda3fb4b0d225ea8a22043bda4a8d8d63653767", func := "cenotaph/cenotaphlaw05.EventBack", spec := "eventBack", unfollowed := true, recurses := true, apart := false, narrowed := true }
def EventBackUptoSaid : Prop := eventBackUptoRow.holds Try.pinned (OpenSpec.upto eventBackSpec)

/-- 'cenotaphlaw05.EventApart', WHERE WHAT IT READS IS OF BULK AT MOST 1048576: true; the input reads as it did. -/
def eventApartUptoRow : OpenClaim := { program := "ythdoklobbcedcad", sum := "eaf547ce4e27aba79a27caa10dda3fb4b0d225ea8a22043bda4a8d8d63653767", func := "cenotaph/cenotaphlaw05.EventApart", spec := "eventApart", unfollowed := true, recurses := true, apart := false, narrowed := true }
def EventApartUptoSaid : Prop := eventApartUptoRow.holds Try.pinned (OpenSpec.upto eventApartSpec)

/-- 'cenotaphlaw05.EventLong', WHERE WHAT IT READS IS OF BULK AT MOST 1048576: true; the input reads as it did. -/
def eventLongUptoRow : OpenClaim := { program := "ythdoklobbcedcad", sum := "eaf547ce4e27aba79a27caa10dda3fb4b0d225ea8a22043bda4a8d8d63653767", func := "cenotaph/cenotaphlaw05.EventLong", spec := "eventLong", unfollowed := true, recurses := true, apart := false, narrowed := true }
def EventLongUptoSaid : Prop := eventLongUptoRow.holds Try.pinned (OpenSpec.upto eventLongSpec)

/-- 'cenotaphlaw05.EventOther', WHERE WHAT IT READS IS OF BULK AT MOST 1048576: true; the input reads as it did. -/
def eventOtherUptoRow : OpenClaim := { program := "ythdoklobbcedcad", sum := "eaf547ce4e27aba79a27caa10dda3fb4b0d225ea8a22043bda4a8d8d63653767", func := "cenotaph/cenotaphlaw05.EventOther", spec := "eventOther", unfollowed := true, recurses := true, apart := false, narrowed := true }
def EventOtherUptoSaid : Prop := eventOtherUptoRow.holds Try.pinned (OpenSpec.upto eventOtherSpec)

end Rows
end Go.Proofs.Ythdoklobbcedcad
