/-
  DERIVED. GIVEN WITH THE SEED: THE CARDS: each row of YthdoklobbcedcadDoorRows.lean that lists a variable, with what it lists TIED to the program's text (the seventh form; the later family's looks); each row that meets fmt, with fmt's text TOLD by the authors' own Lean function (tested against real Go, not proved from fmt's source: count such statements apart). THE CARD IS WHAT COUNTS. Prove the row's statement (the work); the ties are given (YthdoklobbcedcadDoorTie.lean); close each card by the builder's one call (the guide's Derived/Test/ToyasCard.lean, 'card_holds'). Laid BY PROGRAM, IN A SANDBOX (cutbox-door.mjs). By AI agents, Wed Nov 11 2026. No macro, syntax, notation, axiom, sorry.
-/
import Derived.Test.YthdoklobbcedcadDoorRows
import GoSem.ClaimSeven
namespace Go.Proofs.YthdoklobbcedcadDoor
namespace Rows

/-- THE TIED CARD OF 'cenotaphlaw08.FileTells'. -/
def fileTellsCard : Claim7 := { stood := { row := fileTellsRow, standIns := [], harness := (true, "37f400f8b40fd4b1a643264fdb047bac232f4144e1f8b8841a7bce3d511e1a6d"), looks := true }, kinds := [], alts := [], laidByText := true, laidKinds := [.data, .pinned], laidTests := true, laidLooks := .later }
def FileTellsCardSaid : Prop := Claim7.holds Tryd.pinned (.plain (OpenSpec.ofChange fileTellsSpec)) fileTellsCard

/-- THE TIED CARD OF 'cenotaphlaw08.FileSums'. -/
def fileSumsCard : Claim7 := { stood := { row := fileSumsRow, standIns := [], harness := (true, "37f400f8b40fd4b1a643264fdb047bac232f4144e1f8b8841a7bce3d511e1a6d"), looks := true }, kinds := [], alts := [], laidByText := true, laidKinds := [.data, .pinned], laidTests := true, laidLooks := .later }
def FileSumsCardSaid : Prop := Claim7.holds Tryd.pinned (.plain (OpenSpec.ofChange fileSumsSpec)) fileSumsCard

/-- THE TIED CARD OF 'cenotaphlaw08.FileReads'. -/
def fileReadsCard : Claim7 := { stood := { row := fileReadsRow, standIns := [], harness := (true, "37f400f8b40fd4b1a643264fdb047bac232f4144e1f8b8841a7bce3d511e1a6d"), looks := true }, kinds := [], alts := [], laidByText := true, laidKinds := [.data, .pinned], laidTests := true, laidLooks := .later }
def FileReadsCardSaid : Prop := Claim7.holds Tryd.pinned (.plain (OpenSpec.ofChange fileReadsSpec)) fileReadsCard

/-- THE TIED CARD OF 'cenotaphlaw08.FileAppends'. -/
def fileAppendsCard : Claim7 := { stood := { row := fileAppendsRow, standIns := [], harness := (true, "37f400f8b40fd4b1a643264fdb047bac232f4144e1f8b8841a7bce3d511e1a6d"), looks := true }, kinds := [], alts := [], laidByText := true, laidKinds := [.data, .pinned], laidTests := true, laidLooks := .later }
def FileAppendsCardSaid : Prop := Claim7.holds Tryd.pinned (.plain (OpenSpec.ofChange fileAppendsSpec)) fileAppendsCard

/-- THE TIED CARD OF 'cenotaphlaw08.FileValid'. -/
def fileValidCard : Claim7 := { stood := { row := fileValidRow, standIns := [], harness := (true, "37f400f8b40fd4b1a643264fdb047bac232f4144e1f8b8841a7bce3d511e1a6d"), looks := true }, kinds := [], alts := [], laidByText := true, laidKinds := [.data, .pinned], laidTests := true, laidLooks := .later }
def FileValidCardSaid : Prop := Claim7.holds Tryd.pinned (.plain (OpenSpec.ofChange fileValidSpec)) fileValidCard

/-- THE TIED CARD OF 'cenotaphlaw08.FileSealed'. -/
def fileSealedCard : Claim7 := { stood := { row := fileSealedRow, standIns := [], harness := (true, "37f400f8b40fd4b1a643264fdb047bac232f4144e1f8b8841a7bce3d511e1a6d"), looks := true }, kinds := [], alts := [], laidByText := true, laidKinds := [.data, .pinned], laidTests := true, laidLooks := .later }
def FileSealedCardSaid : Prop := Claim7.holds Tryd.pinned (.plain (OpenSpec.ofChange fileSealedSpec)) fileSealedCard

/-- THE SECOND FORM's CARD OF 'cenotaphlaw08.FileTells'. -/
def fileTellsUptoCard : Claim7 := { stood := { row := fileTellsUptoRow, standIns := [], harness := (true, "37f400f8b40fd4b1a643264fdb047bac232f4144e1f8b8841a7bce3d511e1a6d"), looks := true }, kinds := [], alts := [], laidByText := true, laidKinds := [.data, .pinned], laidTests := true, laidLooks := .later }
def FileTellsUptoCardSaid : Prop := Claim7.holds Tryd.pinned (.plain (OpenSpec.upto fileTellsSpec)) fileTellsUptoCard

/-- THE SECOND FORM's CARD OF 'cenotaphlaw08.FileSums'. -/
def fileSumsUptoCard : Claim7 := { stood := { row := fileSumsUptoRow, standIns := [], harness := (true, "37f400f8b40fd4b1a643264fdb047bac232f4144e1f8b8841a7bce3d511e1a6d"), looks := true }, kinds := [], alts := [], laidByText := true, laidKinds := [.data, .pinned], laidTests := true, laidLooks := .later }
def FileSumsUptoCardSaid : Prop := Claim7.holds Tryd.pinned (.plain (OpenSpec.upto fileSumsSpec)) fileSumsUptoCard

/-- THE SECOND FORM's CARD OF 'cenotaphlaw08.FileReads'. -/
def fileReadsUptoCard : Claim7 := { stood := { row := fileReadsUptoRow, standIns := [], harness := (true, "37f400f8b40fd4b1a643264fdb047bac232f4144e1f8b8841a7bce3d511e1a6d"), looks := true }, kinds := [], alts := [], laidByText := true, laidKinds := [.data, .pinned], laidTests := true, laidLooks := .later }
def FileReadsUptoCardSaid : Prop := Claim7.holds Tryd.pinned (.plain (OpenSpec.upto fileReadsSpec)) fileReadsUptoCard

/-- THE SECOND FORM's CARD OF 'cenotaphlaw08.FileAppends'. -/
def fileAppendsUptoCard : Claim7 := { stood := { row := fileAppendsUptoRow, standIns := [], harness := (true, "37f400f8b40fd4b1a643264fdb047bac232f4144e1f8b8841a7bce3d511e1a6d"), looks := true }, kinds := [], alts := [], laidByText := true, laidKinds := [.data, .pinned], laidTests := true, laidLooks := .later }
def FileAppendsUptoCardSaid : Prop := Claim7.holds Tryd.pinned (.plain (OpenSpec.upto fileAppendsSpec)) fileAppendsUptoCard

/-- THE SECOND FORM's CARD OF 'cenotaphlaw08.FileValid'. -/
def fileValidUptoCard : Claim7 := { stood := { row := fileValidUptoRow, standIns := [], harness := (true, "37f400f8b40fd4b1a643264fdb047bac232f4144e1f8b8841a7bce3d511e1a6d"), looks := true }, kinds := [], alts := [], laidByText := true, laidKinds := [.data, .pinned], laidTests := true, laidLooks := .later }
def FileValidUptoCardSaid : Prop := Claim7.holds Tryd.pinned (.plain (OpenSpec.upto fileValidSpec)) fileValidUptoCard

/-- THE SECOND FORM's CARD OF 'cenotaphlaw08.FileSealed'. -/
def fileSealedUptoCard : Claim7 := { stood := { row := fileSealedUptoRow, standIns := [], harness := (true, "37f400f8b40fd4b1a643264fdb047bac232f4144e1f8b8841a7bce3d511e1a6d"), looks := true }, kinds := [], alts := [], laidByText := true, laidKinds := [.data, .pinned], laidTests := true, laidLooks := .later }
def FileSealedUptoCardSaid : Prop := Claim7.holds Tryd.pinned (.plain (OpenSpec.upto fileSealedSpec)) fileSealedUptoCard
end Rows
end Go.Proofs.YthdoklobbcedcadDoor
