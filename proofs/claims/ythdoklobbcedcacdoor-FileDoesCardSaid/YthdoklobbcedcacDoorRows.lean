/-
  NARROWER THAN 'FOR EVERY INPUT', by the rows' own cells (each row's printed sentence says how): RuleTells: laid · RuleFloor: laid · RuleKeeps: laid · RuleHolds: laid · RuleLabels: laid · RuleExtends: laid · FileDoes: laid.
  DERIVED. THE GIVEN ROWS OF THIS SEAT. 7 by the template 'for every input the law returns true; each argument reads behind the call as it read before'; 0 by the template 'total and deterministic' (their statements: YthdoklobbcedcacDoorTotals.lean).
  GIVEN WITH THE SEED: the statements are not yours to turn. If you find one false, say at which input.
  Laid BY PROGRAM, IN A SANDBOX (cutbox-rows.mjs): the forced cells as the released guide's own fill.sh prints them over the translation 70cc7c87c829ad56… (all of the seat's roots in one cut). By AI agents, Wed Nov 11 2026. No macro, syntax, notation, axiom, sorry.
-/
import Derived.Test.YthdoklobbcedcacDoorChecked
import GoSem.PinnedTables
import GoSem.Claim
import GoSem.ClaimJoined
import GoSem.ClaimMapViews
import Derived.JoinedTies
import Derived.KernelRfl
namespace Go.Proofs.YthdoklobbcedcacDoor
/- THE CELL 'sum', in the pinned program and in every row, IS THE sha256 OF THE DUMP (.gsa) THAT YthdoklobbcedcacDoorProg.lean LOADS. Nothing in Lean hashes anything: it is a label: what it is worth is what the hold of that sum in a sandbox is worth. -/
noncomputable def Tryd.pinned : Pinned := { name := "ythdoklobbcedcacdoor", sum := "70cc7c87c829ad56575c4deb985b29f565676b5fec165b1a440bc16fff1e21e9", checked := Tryd.checked }
namespace Rows
def none {H : Type} : Left H := { results := [], args := [] }

/- WHAT THE LISTED PACKAGE-LEVEL VARIABLES READ AS WHEN THE CALL BEGINS. Each datum BY PROGRAM (the guide's laid-datum.mjs) off the statement by which the dump's own 'gosem.cut.vars' lays the variable. In a bare row this is a premise. The card (YthdoklobbcedcacDoorCards.lean) ties it to the program's text. -/
def laid_unicode_utf8_acceptRanges {H : Type} : DataW H := .agg [.agg [.lit (.int .u8 128), .lit (.int .u8 191)], .agg [.lit (.int .u8 160), .lit (.int .u8 191)], .agg [.lit (.int .u8 128), .lit (.int .u8 159)], .agg [.lit (.int .u8 144), .lit (.int .u8 191)], .agg [.lit (.int .u8 128), .lit (.int .u8 143)], .agg [.lit (.int .u8 0), .lit (.int .u8 0)], .agg [.lit (.int .u8 0), .lit (.int .u8 0)], .agg [.lit (.int .u8 0), .lit (.int .u8 0)], .agg [.lit (.int .u8 0), .lit (.int .u8 0)], .agg [.lit (.int .u8 0), .lit (.int .u8 0)], .agg [.lit (.int .u8 0), .lit (.int .u8 0)], .agg [.lit (.int .u8 0), .lit (.int .u8 0)], .agg [.lit (.int .u8 0), .lit (.int .u8 0)], .agg [.lit (.int .u8 0), .lit (.int .u8 0)], .agg [.lit (.int .u8 0), .lit (.int .u8 0)], .agg [.lit (.int .u8 0), .lit (.int .u8 0)]]
/-- One of Go's own tables, pinned by name: the form's constant. -/
def laid_unicode_utf8_first : DataW Unit := Go.Pinned.utf8First

/-- 'cenotaphlaw07.RuleTells': WHATEVER THE INPUT: true; the input reads as it did. -/
def ruleTellsSpec : ChangeSpec := { name := "ruleTells", fn := fun _ => fun
  | [d1, d2, d3] => { results := [.lit (.bool true)], args := [d1, d2, d3] }
  | _ => none }
def ruleTellsRow : OpenClaim := { program := "ythdoklobbcedcacdoor", sum := "70cc7c87c829ad56575c4deb985b29f565676b5fec165b1a440bc16fff1e21e9", func := "cenotaph/cenotaphlaw07.RuleTells", spec := "ruleTells", inPlace := ["slices.overlaps[string]"], unfollowed := true, recurses := true, named := ["unicode/utf8.first", "unicode/utf8.acceptRanges"], apart := false, laid := [("unicode/utf8.acceptRanges", laid_unicode_utf8_acceptRanges), ("unicode/utf8.first", laid_unicode_utf8_first)] }
def RuleTellsSaid : Prop := ruleTellsRow.holds Tryd.pinned (OpenSpec.ofChange ruleTellsSpec)

/-- ITS FALSE NEIGHBOUR: 'it returns false'. Refute it at one input. -/
def ruleTellsWrong : ChangeSpec := { name := "ruleTells", fn := fun _ => fun
  | [d1, d2, d3] => { results := [.lit (.bool false)], args := [d1, d2, d3] }
  | _ => none }
def RuleTellsWrongFalsely : Prop := ruleTellsRow.holds Tryd.pinned (OpenSpec.ofChange ruleTellsWrong)

/-- 'cenotaphlaw07.RuleFloor': WHATEVER THE INPUT: true; the input reads as it did. -/
def ruleFloorSpec : ChangeSpec := { name := "ruleFloor", fn := fun _ => fun
  | [d1, d2] => { results := [.lit (.bool true)], args := [d1, d2] }
  | _ => none }
def ruleFloorRow : OpenClaim := { program := "ythdoklobbcedcacdoor", sum := "70cc7c87c829ad56575c4deb985b29f565676b5fec165b1a440bc16fff1e21e9", func := "cenotaph/cenotaphlaw07.RuleFloor", spec := "ruleFloor", inPlace := ["slices.overlaps[string]"], unfollowed := true, recurses := true, named := ["unicode/utf8.first", "unicode/utf8.acceptRanges"], apart := false, laid := [("unicode/utf8.acceptRanges", laid_unicode_utf8_acceptRanges), ("unicode/utf8.first", laid_unicode_utf8_first)] }
def RuleFloorSaid : Prop := ruleFloorRow.holds Tryd.pinned (OpenSpec.ofChange ruleFloorSpec)

/-- ITS FALSE NEIGHBOUR: 'it returns false'. Refute it at one input. -/
def ruleFloorWrong : ChangeSpec := { name := "ruleFloor", fn := fun _ => fun
  | [d1, d2] => { results := [.lit (.bool false)], args := [d1, d2] }
  | _ => none }
def RuleFloorWrongFalsely : Prop := ruleFloorRow.holds Tryd.pinned (OpenSpec.ofChange ruleFloorWrong)

/-- 'cenotaphlaw07.RuleKeeps': WHATEVER THE INPUT: true; the input reads as it did. -/
def ruleKeepsSpec : ChangeSpec := { name := "ruleKeeps", fn := fun _ => fun
  | [d1, d2, d3, d4] => { results := [.lit (.bool true)], args := [d1, d2, d3, d4] }
  | _ => none }
def ruleKeepsRow : OpenClaim := { program := "ythdoklobbcedcacdoor", sum := "70cc7c87c829ad56575c4deb985b29f565676b5fec165b1a440bc16fff1e21e9", func := "cenotaph/cenotaphlaw07.RuleKeeps", spec := "ruleKeeps", inPlace := ["slices.overlaps[string]"], unfollowed := true, recurses := true, named := ["unicode/utf8.first", "unicode/utf8.acceptRanges"], apart := false, laid := [("unicode/utf8.acceptRanges", laid_unicode_utf8_acceptRanges), ("unicode/utf8.first", laid_unicode_utf8_first)] }
def RuleKeepsSaid : Prop := ruleKeepsRow.holds Tryd.pinned (OpenSpec.ofChange ruleKeepsSpec)

/-- ITS FALSE NEIGHBOUR: 'it returns false'. Refute it at one input. -/
def ruleKeepsWrong : ChangeSpec := { name := "ruleKeeps", fn := fun _ => fun
  | [d1, d2, d3, d4] => { results := [.lit (.bool false)], args := [d1, d2, d3, d4] }
  | _ => none }
def RuleKeepsWrongFalsely : Prop := ruleKeepsRow.holds Tryd.pinned (OpenSpec.ofChange ruleKeepsWrong)

/-- 'cenotaphlaw07.RuleHolds': WHATEVER THE INPUT: true; the input reads as it did. -/
def ruleHoldsSpec : ChangeSpec := { name := "ruleHolds", fn := fun _ => fun
  | [d1, d2] => { results := [.lit (.bool true)], args := [d1, d2] }
  | _ => none }
def ruleHoldsRow : OpenClaim := { program := "ythdoklobbcedcacdoor", sum := "70cc7c87c829ad56575c4deb985b29f565676b5fec165b1a440bc16fff1e21e9", func := "cenotaph/cenotaphlaw07.RuleHolds", spec := "ruleHolds", inPlace := ["slices.overlaps[string]"], unfollowed := true, recurses := true, named := ["unicode/utf8.first", "unicode/utf8.acceptRanges"], apart := false, laid := [("unicode/utf8.acceptRanges", laid_unicode_utf8_acceptRanges), ("unicode/utf8.first", laid_unicode_utf8_first)] }
def RuleHoldsSaid : Prop := ruleHoldsRow.holds Tryd.pinned (OpenSpec.ofChange ruleHoldsSpec)

/-- ITS FALSE NEIGHBOUR: 'it returns false'. Refute it at one input. -/
def ruleHoldsWrong : ChangeSpec := { name := "ruleHolds", fn := fun _ => fun
  | [d1, d2] => { results := [.lit (.bool false)], args := [d1, d2] }
  | _ => none }
def RuleHoldsWrongFalsely : Prop := ruleHoldsRow.holds Tryd.pinned (OpenSpec.ofChange ruleHoldsWrong)

/-- 'cenotaphlaw07.RuleLabels': WHATEVER THE INPUT: true; the input reads as it did. -/
def ruleLabelsSpec : ChangeSpec := { name := "ruleLabels", fn := fun _ => fun
  | [d1, d2, d3] => { results := [.lit (.bool true)], args := [d1, d2, d3] }
  | _ => none }
def ruleLabelsRow : OpenClaim := { program := "ythdoklobbcedcacdoor", sum := "70cc7c87c829ad56575c4deb985b29f565676b5fec165b1a440bc16fff1e21e9", func := "cenotaph/cenotaphlaw07.RuleLabels", spec := "ruleLabels", inPlace := ["slices.overlaps[string]"], unfollowed := true, recurses := true, named := ["unicode/utf8.first", "unicode/utf8.acceptRanges"], apart := false, laid := [("unicode/utf8.acceptRanges", laid_unicode_utf8_acceptRanges), ("unicode/utf8.first", laid_unicode_utf8_first)] }
def RuleLabelsSaid : Prop := ruleLabelsRow.holds Tryd.pinned (OpenSpec.ofChange ruleLabelsSpec)

/-- ITS FALSE NEIGHBOUR: 'it returns false'. Refute it at one input. -/
def ruleLabelsWrong : ChangeSpec := { name := "ruleLabels", fn := fun _ => fun
  | [d1, d2, d3] => { results := [.lit (.bool false)], args := [d1, d2, d3] }
  | _ => none }
def RuleLabelsWrongFalsely : Prop := ruleLabelsRow.holds Tryd.pinned (OpenSpec.ofChange ruleLabelsWrong)

/-- 'cenotaphlaw07.RuleExtends': WHATEVER THE INPUT: true; the input reads as it did. -/
def ruleExtendsSpec : ChangeSpec := { name := "ruleExtends", fn := fun _ => fun
  | [d1, d2, d3] => { results := [.lit (.bool true)], args := [d1, d2, d3] }
  | _ => none }
def ruleExtendsRow : OpenClaim := { program := "ythdoklobbcedcacdoor", sum := "70cc7c87c829ad56575c4deb985b29f565676b5fec165b1a440bc16fff1e21e9", func := "cenotaph/cenotaphlaw07.RuleExtends", spec := "ruleExtends", inPlace := ["slices.overlaps[string]"], unfollowed := true, recurses := true, named := ["unicode/utf8.first", "unicode/utf8.acceptRanges"], apart := false, laid := [("unicode/utf8.acceptRanges", laid_unicode_utf8_acceptRanges), ("unicode/utf8.first", laid_unicode_utf8_first)] }
def RuleExtendsSaid : Prop := ruleExtendsRow.holds Tryd.pinned (OpenSpec.ofChange ruleExtendsSpec)

/-- ITS FALSE NEIGHBOUR: 'it returns false'. Refute it at one input. -/
def ruleExtendsWrong : ChangeSpec := { name := "ruleExtends", fn := fun _ => fun
  | [d1, d2, d3] => { results := [.lit (.bool false)], args := [d1, d2, d3] }
  | _ => none }
def RuleExtendsWrongFalsely : Prop := ruleExtendsRow.holds Tryd.pinned (OpenSpec.ofChange ruleExtendsWrong)

/-- 'cenotaphlaw08.FileDoes': WHATEVER THE INPUT: true; the input reads as it did. -/
def fileDoesSpec : ChangeSpec := { name := "fileDoes", fn := fun _ => fun
  | [d1, d2, d3] => { results := [.lit (.bool true)], args := [d1, d2, d3] }
  | _ => none }
def fileDoesRow : OpenClaim := { program := "ythdoklobbcedcacdoor", sum := "70cc7c87c829ad56575c4deb985b29f565676b5fec165b1a440bc16fff1e21e9", func := "cenotaph/cenotaphlaw08.FileDoes", spec := "fileDoes", inPlace := ["slices.overlaps[string]", "math/bits.Add64"], unfollowed := true, recurses := true, named := ["unicode/utf8.first", "unicode/utf8.acceptRanges"], apart := false, laid := [("unicode/utf8.acceptRanges", laid_unicode_utf8_acceptRanges), ("unicode/utf8.first", laid_unicode_utf8_first)] }
def FileDoesSaid : Prop := fileDoesRow.holds Tryd.pinned (OpenSpec.ofChange fileDoesSpec)

/-- ITS FALSE NEIGHBOUR: 'it returns false'. Refute it at one input. -/
def fileDoesWrong : ChangeSpec := { name := "fileDoes", fn := fun _ => fun
  | [d1, d2, d3] => { results := [.lit (.bool false)], args := [d1, d2, d3] }
  | _ => none }
def FileDoesWrongFalsely : Prop := fileDoesRow.holds Tryd.pinned (OpenSpec.ofChange fileDoesWrong)

/- THE SECOND FORM. 'bulk': how many values and letters a reading holds, each counted each time it is reached (what is shared counts as often as it is met; a slice's spare places count too). A statement '..UptoSaid' is the law's where the arguments, and the package variables that the reading takes, are together of bulk at most 1048576: NARROWER than '..Said'. Prove '..Said' where nothing that the law and all that it calls make is longer than what came in: it says more and counts as full. Else prove '..UptoSaid'. A law counts once. -/
mutual
def uptoBulk {H : Type} : DataW H → Nat
  | .lit (.string bytes) => bytes.length + 1
  | .lit _ => 1
  | .nil => 1
  | .ptr d => uptoBulk d + 1
  | .slice elems spare => uptoBulkAll elems + uptoBulkAll spare + 1
  | .agg parts => uptoBulkAll parts + 1
  | .iface _ d => uptoBulk d + 1
  | .map entries => uptoBulkEntries entries + 1
  | .held _ => 1
def uptoBulkAll {H : Type} : List (DataW H) → Nat
  | [] => 0
  | d :: r => uptoBulk d + uptoBulkAll r
def uptoBulkEntries {H : Type} : List (Lit × DataW H) → Nat
  | [] => 0
  | x :: r => uptoBulkEntry x + uptoBulkEntries r
def uptoBulkEntry {H : Type} : Lit × DataW H → Nat
  | (.string bytes, d) => bytes.length + uptoBulk d + 1
  | (_, d) => uptoBulk d + 1
 end
def uptoSmall : (H : Type) → List (DataW H) → Bool := fun _ ds => decide (uptoBulkAll ds ≤ 1048576)
def OpenSpec.upto (s : _root_.Go.ChangeSpec) : _root_.Go.OpenSpec := { _root_.Go.OpenSpec.ofChange s with cond := some uptoSmall }

/-- 'cenotaphlaw07.RuleTells', WHERE WHAT IT READS IS OF BULK AT MOST 1048576: true; the input reads as it did. -/
def ruleTellsUptoRow : OpenClaim := { program := "ythdoklobbcedcacdoor", sum := "70cc7c87c829ad56575c4deb985b29f565676b5fec165b1a440bc16fff1e21e9", func := "cenotaph/cenotaphlaw07.RuleTells", spec := "ruleTells", inPlace := ["slices.overlaps[string]"], unfollowed := true, recurses := true, named := ["unicode/utf8.first", "unicode/utf8.acceptRanges"], apart := false, laid := [("unicode/utf8.acceptRanges", laid_unicode_utf8_acceptRanges), ("unicode/utf8.first", laid_unicode_utf8_first)], narrowed := true }
def RuleTellsUptoSaid : Prop := ruleTellsUptoRow.holds Tryd.pinned (OpenSpec.upto ruleTellsSpec)

/-- 'cenotaphlaw07.RuleFloor', WHERE WHAT IT READS IS OF BULK AT MOST 1048576: true; the input reads as it did. -/
def ruleFloorUptoRow : OpenClaim := { program := "ythdoklobbcedcacdoor", sum := "70cc7c87c829ad56575c4deb985b29f565676b5fec165b1a440bc16fff1e21e9", func := "cenotaph/cenotaphlaw07.RuleFloor", spec := "ruleFloor", inPlace := ["slices.overlaps[string]"], unfollowed := true, recurses := true, named := ["unicode/utf8.first", "unicode/utf8.acceptRanges"], apart := false, laid := [("unicode/utf8.acceptRanges", laid_unicode_utf8_acceptRanges), ("unicode/utf8.first", laid_unicode_utf8_first)], narrowed := true }
def RuleFloorUptoSaid : Prop := ruleFloorUptoRow.holds Tryd.pinned (OpenSpec.upto ruleFloorSpec)

/-- 'cenotaphlaw07.RuleKeeps', WHERE WHAT IT READS IS OF BULK AT MOST 1048576: true; the input reads as it did. -/
def ruleKeepsUptoRow : OpenClaim := { program := "ythdoklobbcedcacdoor", sum := "70cc7c87c829ad56575c4deb985b29f565676b5fec165b1a440bc16fff1e21e9", func := "cenotaph/cenotaphlaw07.RuleKeeps", spec := "ruleKeeps", inPlace := ["slices.overlaps[string]"], unfollowed := true, recurses := true, named := ["unicode/utf8.first", "unicode/utf8.acceptRanges"], apart := false, laid := [("unicode/utf8.acceptRanges", laid_unicode_utf8_acceptRanges), ("unicode/utf8.first", laid_unicode_utf8_first)], narrowed := true }
def RuleKeepsUptoSaid : Prop := ruleKeepsUptoRow.holds Tryd.pinned (OpenSpec.upto ruleKeepsSpec)

/-- 'cenotaphlaw07.RuleHolds', WHERE WHAT IT READS IS OF BULK AT MOST 1048576: true; the input reads as it did. -/
def ruleHoldsUptoRow : OpenClaim := { program := "ythdoklobbcedcacdoor", sum := "70cc7c87c829ad56575c4deb985b29f565676b5fec165b1a440bc16fff1e21e9", func := "cenotaph/cenotaphlaw07.RuleHolds", spec := "ruleHolds", inPlace := ["slices.overlaps[string]"], unfollowed := true, recurses := true, named := ["unicode/utf8.first", "unicode/utf8.acceptRanges"], apart := false, laid := [("unicode/utf8.acceptRanges", laid_unicode_utf8_acceptRanges), ("unicode/utf8.first", laid_unicode_utf8_first)], narrowed := true }
def RuleHoldsUptoSaid : Prop := ruleHoldsUptoRow.holds Tryd.pinned (OpenSpec.upto ruleHoldsSpec)

/-- 'cenotaphlaw07.RuleLabels', WHERE WHAT IT READS IS OF BULK AT MOST 1048576: true; the input reads as it did. -/
def ruleLabelsUptoRow : OpenClaim := { program := "ythdoklobbcedcacdoor", sum := "70cc7c87c829ad56575c4deb985b29f565676b5fec165b1a440bc16fff1e21e9", func := "cenotaph/cenotaphlaw07.RuleLabels", spec := "ruleLabels", inPlace := ["slices.overlaps[string]"], unfollowed := true, recurses := true, named := ["unicode/utf8.first", "unicode/utf8.acceptRanges"], apart := false, laid := [("unicode/utf8.acceptRanges", laid_unicode_utf8_acceptRanges), ("unicode/utf8.first", laid_unicode_utf8_first)], narrowed := true }
def RuleLabelsUptoSaid : Prop := ruleLabelsUptoRow.holds Tryd.pinned (OpenSpec.upto ruleLabelsSpec)

/-- 'cenotaphlaw07.RuleExtends', WHERE WHAT IT READS IS OF BULK AT MOST 1048576: true; the input reads as it did. -/
def ruleExtendsUptoRow : OpenClaim := { program := "ythdoklobbcedcacdoor", sum := "70cc7c87c829ad56575c4deb985b29f565676b5fec165b1a440bc16fff1e21e9", func := "cenotaph/cenotaphlaw07.RuleExtends", spec := "ruleExtends", inPlace := ["slices.overlaps[string]"], unfollowed := true, recurses := true, named := ["unicode/utf8.first", "unicode/utf8.acceptRanges"], apart := false, laid := [("unicode/utf8.acceptRanges", laid_unicode_utf8_acceptRanges), ("unicode/utf8.first", laid_unicode_utf8_first)], narrowed := true }
def RuleExtendsUptoSaid : Prop := ruleExtendsUptoRow.holds Tryd.pinned (OpenSpec.upto ruleExtendsSpec)

/-- 'cenotaphlaw08.FileDoes', WHERE WHAT IT READS IS OF BULK AT MOST 1048576: true; the input reads as it did. -/
def fileDoesUptoRow : OpenClaim := { program := "ythdoklobbcedcacdoor", sum := "70cc7c87c829ad56575c4deb985b29f565676b5fec165b1a440bc16fff1e21e9", func := "cenotaph/cenotaphlaw08.FileDoes", spec := "fileDoes", inPlace := ["slices.overlaps[string]", "math/bits.Add64"], unfollowed := true, recurses := true, named := ["unicode/utf8.first", "unicode/utf8.acceptRanges"], apart := false, laid := [("unicode/utf8.acceptRanges", laid_unicode_utf8_acceptRanges), ("unicode/utf8.first", laid_unicode_utf8_first)], narrowed := true }
def FileDoesUptoSaid : Prop := fileDoesUptoRow.holds Tryd.pinned (OpenSpec.upto fileDoesSpec)

end Rows
end Go.Proofs.YthdoklobbcedcacDoor
