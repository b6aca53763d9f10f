/-
  NARROWER THAN 'FOR EVERY INPUT', by the rows' own cells (each row's printed sentence says how): FileTells: laid · FileSums: laid · FileReads: laid · FileAppends: laid · FileValid: laid · FileSealed: laid.
  DERIVED. THE GIVEN ROWS OF THIS SEAT. 6 by the template 'for every input the law returns true; each argument reads behind the call as it read before'; 0 by the template 'total and deterministic' (their statements: YthdoklobbcedcadDoorTotals.lean).
  GIVEN WITH THE SEED: the statements are not yours to turn. If you find one false, say at which input.
  Laid BY PROGRAM, IN A SANDBOX (cutbox-rows.mjs): the forced cells as the released guide's own fill.sh prints them over the translation d40ed399914f0d67… (all of the seat's roots in one cut). By AI agents, Wed Nov 11 2026. No macro, syntax, notation, axiom, sorry.
-/
import Derived.Test.YthdoklobbcedcadDoorChecked
import GoSem.PinnedTables
import GoSem.Claim
import GoSem.ClaimJoined
import GoSem.ClaimMapViews
import Derived.JoinedTies
import Derived.KernelRfl
namespace Go.Proofs.YthdoklobbcedcadDoor
/- THE CELL 'sum', in the pinned program and in every row, IS THE sha256 OF THE DUMP (.gsa) THAT YthdoklobbcedcadDoorProg.lean LOADS. Nothing in Lean hashes anything: it is a label: what it is worth is what the hold of that sum in a sandbox is worth. -/
noncomputable def Tryd.pinned : Pinned := { name := "ythdoklobbcedcaddoor", sum := "d40ed399914f0d678343f5b4ada0057eadf6f38caa094e2bf51fb7b6eec4cf97", checked := Tryd.checked }
namespace Rows
def none {H : Type} : Left H := { results := [], args := [] }

/- WHAT THE LISTED PACKAGE-LEVEL VARIABLES READ AS WHEN THE CALL BEGINS. Each datum BY PROGRAM (the guide's laid-datum.mjs) off the statement by which the dump's own 'gosem.cut.vars' lays the variable. In a bare row this is a premise. The card (YthdoklobbcedcadDoorCards.lean) ties it to the program's text. -/
def laid_unicode_utf8_acceptRanges {H : Type} : DataW H := .agg [.agg [.lit (.int .u8 128), .lit (.int .u8 191)], .agg [.lit (.int .u8 160), .lit (.int .u8 191)], .agg [.lit (.int .u8 128), .lit (.int .u8 159)], .agg [.lit (.int .u8 144), .lit (.int .u8 191)], .agg [.lit (.int .u8 128), .lit (.int .u8 143)], .agg [.lit (.int .u8 0), .lit (.int .u8 0)], .agg [.lit (.int .u8 0), .lit (.int .u8 0)], .agg [.lit (.int .u8 0), .lit (.int .u8 0)], .agg [.lit (.int .u8 0), .lit (.int .u8 0)], .agg [.lit (.int .u8 0), .lit (.int .u8 0)], .agg [.lit (.int .u8 0), .lit (.int .u8 0)], .agg [.lit (.int .u8 0), .lit (.int .u8 0)], .agg [.lit (.int .u8 0), .lit (.int .u8 0)], .agg [.lit (.int .u8 0), .lit (.int .u8 0)], .agg [.lit (.int .u8 0), .lit (.int .u8 0)], .agg [.lit (.int .u8 0), .lit (.int .u8 0)]]
/-- One of Go's own tables, pinned by name: the form's constant. -/
def laid_unicode_utf8_first : DataW Unit := Go.Pinned.utf8First

/-- 'cenotaphlaw08.FileTells': WHATEVER THE INPUT: true; the input reads as it did. -/
def fileTellsSpec : ChangeSpec := { name := "fileTells", fn := fun _ => fun
  | [d1, d2, d3, d4, d5] => { results := [.lit (.bool true)], args := [d1, d2, d3, d4, d5] }
  | _ => none }
def fileTellsRow : OpenClaim := { program := "ythdoklobbcedcaddoor", sum := "d40ed399914f0d678343f5b4ada0057eadf6f38caa094e2bf51fb7b6eec4cf97", func := "cenotaph/cenotaphlaw08.FileTells", spec := "fileTells", inPlace := ["slices.overlaps[string]", "math/bits.Add64"], unfollowed := true, recurses := true, named := ["unicode/utf8.first", "unicode/utf8.acceptRanges"], apart := false, laid := [("unicode/utf8.acceptRanges", laid_unicode_utf8_acceptRanges), ("unicode/utf8.first", laid_unicode_utf8_first)] }
def FileTellsSaid : Prop := fileTellsRow.holds Tryd.pinned (OpenSpec.ofChange fileTellsSpec)

/-- ITS FALSE NEIGHBOUR: 'it returns false'. Refute it at one input. -/
def fileTellsWrong : ChangeSpec := { name := "fileTells", fn := fun _ => fun
  | [d1, d2, d3, d4, d5] => { results := [.lit (.bool false)], args := [d1, d2, d3, d4, d5] }
  | _ => none }
def FileTellsWrongFalsely : Prop := fileTellsRow.holds Tryd.pinned (OpenSpec.ofChange fileTellsWrong)

/-- 'cenotaphlaw08.FileSums': WHATEVER THE INPUT: true; the input reads as it did. -/
def fileSumsSpec : ChangeSpec := { name := "fileSums", fn := fun _ => fun
  | [d1, d2] => { results := [.lit (.bool true)], args := [d1, d2] }
  | _ => none }
def fileSumsRow : OpenClaim := { program := "ythdoklobbcedcaddoor", sum := "d40ed399914f0d678343f5b4ada0057eadf6f38caa094e2bf51fb7b6eec4cf97", func := "cenotaph/cenotaphlaw08.FileSums", spec := "fileSums", inPlace := ["slices.overlaps[string]", "math/bits.Add64"], unfollowed := true, recurses := true, named := ["unicode/utf8.first", "unicode/utf8.acceptRanges"], apart := false, laid := [("unicode/utf8.acceptRanges", laid_unicode_utf8_acceptRanges), ("unicode/utf8.first", laid_unicode_utf8_first)] }
def FileSumsSaid : Prop := fileSumsRow.holds Tryd.pinned (OpenSpec.ofChange fileSumsSpec)

/-- ITS FALSE NEIGHBOUR: 'it returns false'. Refute it at one input. -/
def fileSumsWrong : ChangeSpec := { name := "fileSums", fn := fun _ => fun
  | [d1, d2] => { results := [.lit (.bool false)], args := [d1, d2] }
  | _ => none }
def FileSumsWrongFalsely : Prop := fileSumsRow.holds Tryd.pinned (OpenSpec.ofChange fileSumsWrong)

/-- 'cenotaphlaw08.FileReads': WHATEVER THE INPUT: true; the input reads as it did. -/
def fileReadsSpec : ChangeSpec := { name := "fileReads", fn := fun _ => fun
  | [d1, d2, d3, d4] => { results := [.lit (.bool true)], args := [d1, d2, d3, d4] }
  | _ => none }
def fileReadsRow : OpenClaim := { program := "ythdoklobbcedcaddoor", sum := "d40ed399914f0d678343f5b4ada0057eadf6f38caa094e2bf51fb7b6eec4cf97", func := "cenotaph/cenotaphlaw08.FileReads", spec := "fileReads", inPlace := ["slices.overlaps[string]", "math/bits.Add64"], unfollowed := true, recurses := true, named := ["unicode/utf8.first", "unicode/utf8.acceptRanges"], apart := false, laid := [("unicode/utf8.acceptRanges", laid_unicode_utf8_acceptRanges), ("unicode/utf8.first", laid_unicode_utf8_first)] }
def FileReadsSaid : Prop := fileReadsRow.holds Tryd.pinned (OpenSpec.ofChange fileReadsSpec)

/-- ITS FALSE NEIGHBOUR: 'it returns false'. Refute it at one input. -/
def fileReadsWrong : ChangeSpec := { name := "fileReads", fn := fun _ => fun
  | [d1, d2, d3, d4] => { results := [.lit (.bool false)], args := [d1, d2, d3, d4] }
  | _ => none }
def FileReadsWrongFalsely : Prop := fileReadsRow.holds Tryd.pinned (OpenSpec.ofChange fileReadsWrong)

/-- 'cenotaphlaw08.FileAppends': WHATEVER THE INPUT: true; the input reads as it did. -/
def fileAppendsSpec : ChangeSpec := { name := "fileAppends", fn := fun _ => fun
  | [d1, d2, d3] => { results := [.lit (.bool true)], args := [d1, d2, d3] }
  | _ => none }
def fileAppendsRow : OpenClaim := { program := "ythdoklobbcedcaddoor", sum := "d40ed399914f0d678343f5b4ada0057eadf6f38caa094e2bf51fb7b6eec4cf97", func := "cenotaph/cenotaphlaw08.FileAppends", spec := "fileAppends", inPlace := ["slices.overlaps[string]", "math/bits.Add64"], unfollowed := true, recurses := true, named := ["unicode/utf8.first", "unicode/utf8.acceptRanges"], apart := false, laid := [("unicode/utf8.acceptRanges", laid_unicode_utf8_acceptRanges), ("unicode/utf8.first", laid_unicode_utf8_first)] }
def FileAppendsSaid : Prop := fileAppendsRow.holds Tryd.pinned (OpenSpec.ofChange fileAppendsSpec)

/-- ITS FALSE NEIGHBOUR: 'it returns false'. Refute it at one input. -/
def fileAppendsWrong : ChangeSpec := { name := "fileAppends", fn := fun _ => fun
  | [d1, d2, d3] => { results := [.lit (.bool false)], args := [d1, d2, d3] }
  | _ => none }
def FileAppendsWrongFalsely : Prop := fileAppendsRow.holds Tryd.pinned (OpenSpec.ofChange fileAppendsWrong)

/-- 'cenotaphlaw08.FileValid': WHATEVER THE INPUT: true; the input reads as it did. -/
def fileValidSpec : ChangeSpec := { name := "fileValid", fn := fun _ => fun
  | [d1, d2, d3] => { results := [.lit (.bool true)], args := [d1, d2, d3] }
  | _ => none }
def fileValidRow : OpenClaim := { program := "ythdoklobbcedcaddoor", sum := "d40ed399914f0d678343f5b4ada0057eadf6f38caa094e2bf51fb7b6eec4cf97", func := "cenotaph/cenotaphlaw08.FileValid", spec := "fileValid", inPlace := ["slices.overlaps[string]", "math/bits.Add64"], unfollowed := true, recurses := true, named := ["unicode/utf8.first", "unicode/utf8.acceptRanges"], apart := false, laid := [("unicode/utf8.acceptRanges", laid_unicode_utf8_acceptRanges), ("unicode/utf8.first", laid_unicode_utf8_first)] }
def FileValidSaid : Prop := fileValidRow.holds Tryd.pinned (OpenSpec.ofChange fileValidSpec)

/-- ITS FALSE NEIGHBOUR: 'it returns false'. Refute it at one input. -/
def fileValidWrong : ChangeSpec := { name := "fileValid", fn := fun _ => fun
  | [d1, d2, d3] => { results := [.lit (.bool false)], args := [d1, d2, d3] }
  | _ => none }
def FileValidWrongFalsely : Prop := fileValidRow.holds Tryd.pinned (OpenSpec.ofChange fileValidWrong)

/-- 'cenotaphlaw08.FileSealed': WHATEVER THE INPUT: true; the input reads as it did. -/
def fileSealedSpec : ChangeSpec := { name := "fileSealed", fn := fun _ => fun
  | [d1, d2, d3] => { results := [.lit (.bool true)], args := [d1, d2, d3] }
  | _ => none }
def fileSealedRow : OpenClaim := { program := "ythdoklobbcedcaddoor", sum := "d40ed399914f0d678343f5b4ada0057eadf6f38caa094e2bf51fb7b6eec4cf97", func := "cenotaph/cenotaphlaw08.FileSealed", spec := "fileSealed", inPlace := ["slices.overlaps[string]", "math/bits.Add64"], unfollowed := true, recurses := true, named := ["unicode/utf8.first", "unicode/utf8.acceptRanges"], apart := false, laid := [("unicode/utf8.acceptRanges", laid_unicode_utf8_acceptRanges), ("unicode/utf8.first", laid_unicode_utf8_first)] }
def FileSealedSaid : Prop := fileSealedRow.holds Tryd.pinned (OpenSpec.ofChange fileSealedSpec)

/-- ITS FALSE NEIGHBOUR: 'it returns false'. Refute it at one input. -/
def fileSealedWrong : ChangeSpec := { name := "fileSealed", fn := fun _ => fun
  | [d1, d2, d3] => { results := [.lit (.bool false)], args := [d1, d2, d3] }
  | _ => none }
def FileSealedWrongFalsely : Prop := fileSealedRow.holds Tryd.pinned (OpenSpec.ofChange fileSealedWrong)

/- THE SECOND FORM. 'bulk': how many values and letters a reading holds, each counted each time it is reached (what is shared counts as often as it is met; a slice's spare places count too). A statement '..UptoSaid' is the law's where the arguments, and the package variables that the reading takes, are together of bulk at most 1048576: NARROWER than '..Said'. Prove '..Said' where nothing that the law and all that it calls make is longer than what came in: it says more and counts as full. Else prove '..UptoSaid'. A law counts once. -/
mutual
def uptoBulk {H : Type} : DataW H → Nat
  | .lit (.string bytes) => bytes.length + 1
  | .lit _ => 1
  | .nil => 1
  | .ptr d => uptoBulk d + 1
  | .slice elems spare => uptoBulkAll elems + uptoBulkAll spare + 1
  | .agg parts => uptoBulkAll parts + 1
  | .iface _ d => uptoBulk d + 1
  | .map entries => uptoBulkEntries entries + 1
  | .held _ => 1
def uptoBulkAll {H : Type} : List (DataW H) → Nat
  | [] => 0
  | d :: r => uptoBulk d + uptoBulkAll r
def uptoBulkEntries {H : Type} : List (Lit × DataW H) → Nat
  | [] => 0
  | x :: r => uptoBulkEntry x + uptoBulkEntries r
def uptoBulkEntry {H : Type} : Lit × DataW H → Nat
  | (.string bytes, d) => bytes.length + uptoBulk d + 1
  | (_, d) => uptoBulk d + 1
 end
def uptoSmall : (H : Type) → List (DataW H) → Bool := fun _ ds => decide (uptoBulkAll ds ≤ 1048576)
def OpenSpec.upto (s : _root_.Go.ChangeSpec) : _root_.Go.OpenSpec := { _root_.Go.OpenSpec.ofChange s with cond := some uptoSmall }

/-- 'cenotaphlaw08.FileTells', WHERE WHAT IT READS IS OF BULK AT MOST 1048576: true; the input reads as it did. -/
def fileTellsUptoRow : OpenClaim := { program := "ythdoklobbcedcaddoor", sum := "d40ed399914f0d678343f5b4ada0057eadf6f38caa094e2bf51fb7b6eec4cf97", func := "cenotaph/cenotaphlaw08.FileTells", spec := "fileTells", inPlace := ["slices.overlaps[string]", "math/bits.Add64"], unfollowed := true, recurses := true, named := ["unicode/utf8.first", "unicode/utf8.acceptRanges"], apart := false, laid := [("unicode/utf8.acceptRanges", laid_unicode_utf8_acceptRanges), ("unicode/utf8.first", laid_unicode_utf8_first)], narrowed := true }
def FileTellsUptoSaid : Prop := fileTellsUptoRow.holds Tryd.pinned (OpenSpec.upto fileTellsSpec)

/-- 'cenotaphlaw08.FileSums', WHERE WHAT IT READS IS OF BULK AT MOST 1048576: true; the input reads as it did. -/
def fileSumsUptoRow : OpenClaim := { program := "ythdoklobbcedcaddoor", sum := "d40ed399914f0d678343f5b4ada0057eadf6f38caa094e2bf51fb7b6eec4cf97", func := "cenotaph/cenotaphlaw08.FileSums", spec := "fileSums", inPlace := ["slices.overlaps[string]", "math/bits.Add64"], unfollowed := true, recurses := true, named := ["unicode/utf8.first", "unicode/utf8.acceptRanges"], apart := false, laid := [("unicode/utf8.acceptRanges", laid_unicode_utf8_acceptRanges), ("unicode/utf8.first", laid_unicode_utf8_first)], narrowed := true }
def FileSumsUptoSaid : Prop := fileSumsUptoRow.holds Tryd.pinned (OpenSpec.upto fileSumsSpec)

/-- 'cenotaphlaw08.FileReads', WHERE WHAT IT READS IS OF BULK AT MOST 1048576: true; the input reads as it did. -/
def fileReadsUptoRow : OpenClaim := { program := "ythdoklobbcedcaddoor", sum := "d40ed399914f0d678343f5b4ada0057eadf6f38caa094e2bf51fb7b6eec4cf97", func := "cenotaph/cenotaphlaw08.FileReads", spec := "fileReads", inPlace := ["slices.overlaps[string]", "math/bits.Add64"], unfollowed := true, recurses := true, named := ["unicode/utf8.first", "unicode/utf8.acceptRanges"], apart := false, laid := [("unicode/utf8.acceptRanges", laid_unicode_utf8_acceptRanges), ("unicode/utf8.first", laid_unicode_utf8_first)], narrowed := true }
def FileReadsUptoSaid : Prop := fileReadsUptoRow.holds Tryd.pinned (OpenSpec.upto fileReadsSpec)

/-- 'cenotaphlaw08.FileAppends', WHERE WHAT IT READS IS OF BULK AT MOST 1048576: true; the input reads as it did. -/
def fileAppendsUptoRow : OpenClaim := { program := "ythdoklobbcedcaddoor", sum := "d40ed399914f0d678343f5b4ada0057eadf6f38caa094e2bf51fb7b6eec4cf97", func := "cenotaph/cenotaphlaw08.FileAppends", spec := "fileAppends", inPlace := ["slices.overlaps[string]", "math/bits.Add64"], unfollowed := true, recurses := true, named := ["unicode/utf8.first", "unicode/utf8.acceptRanges"], apart := false, laid := [("unicode/utf8.acceptRanges", laid_unicode_utf8_acceptRanges), ("unicode/utf8.first", laid_unicode_utf8_first)], narrowed := true }
def FileAppendsUptoSaid : Prop := fileAppendsUptoRow.holds Tryd.pinned (OpenSpec.upto fileAppendsSpec)

/-- 'cenotaphlaw08.FileValid', WHERE WHAT IT READS IS OF BULK AT MOST 1048576: true; the input reads as it did. -/
def fileValidUptoRow : OpenClaim := { program := "ythdoklobbcedcaddoor", sum := "d40ed399914f0d678343f5b4ada0057eadf6f38caa094e2bf51fb7b6eec4cf97", func := "cenotaph/cenotaphlaw08.FileValid", spec := "fileValid", inPlace := ["slices.overlaps[string]", "math/bits.Add64"], unfollowed := true, recurses := true, named := ["unicode/utf8.first", "unicode/utf8.acceptRanges"], apart := false, laid := [("unicode/utf8.acceptRanges", laid_unicode_utf8_acceptRanges), ("unicode/utf8.first", laid_unicode_utf8_first)], narrowed := true }
def FileValidUptoSaid : Prop := fileValidUptoRow.holds Tryd.pinned (OpenSpec.upto fileValidSpec)

/-- 'cenotaphlaw08.FileSealed', WHERE WHAT IT READS IS OF BULK AT MOST 1048576: true; the input reads as it did. -/
def fileSealedUptoRow : OpenClaim := { program := "ythdoklobbcedcaddoor", sum := "d40ed399914f0d678343f5b4ada0057eadf6f38caa094e2bf51fb7b6eec4cf97", func := "cenotaph/cenotaphlaw08.FileSealed", spec := "fileSealed", inPlace := ["slices.overlaps[string]", "math/bits.Add64"], unfollowed := true, recurses := true, named := ["unicode/utf8.first", "unicode/utf8.acceptRanges"], apart := false, laid := [("unicode/utf8.acceptRanges", laid_unicode_utf8_acceptRanges), ("unicode/utf8.first", laid_unicode_utf8_first)], narrowed := true }
def FileSealedUptoSaid : Prop := fileSealedUptoRow.holds Tryd.pinned (OpenSpec.upto fileSealedSpec)

end Rows
end Go.Proofs.YthdoklobbcedcadDoor
