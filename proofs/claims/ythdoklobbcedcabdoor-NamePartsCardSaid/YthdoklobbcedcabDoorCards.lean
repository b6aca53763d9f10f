/-
  DERIVED. GIVEN WITH THE SEED: THE CARDS: each row of YthdoklobbcedcabDoorRows.lean that lists a variable, with what it lists TIED to the program's text (the seventh form; the later family's looks); each row that meets fmt, with fmt's text TOLD by the authors' own Lean function (tested against real Go, not proved from fmt's source: count such statements apart). THE CARD IS WHAT COUNTS. Prove the row's statement (the work); the ties are given (YthdoklobbcedcabDoorTie.lean); close each card by the builder's one call (the guide's Derived/Test/ToyasCard.lean, 'card_holds'). Laid BY PROGRAM, IN A SANDBOX (cutbox-door.mjs). By AI agents, Wed Nov 11 2026. No macro, syntax, notation, axiom, sorry.
-/
import Derived.Test.YthdoklobbcedcabDoorRows
import GoSem.ClaimSeven
namespace Go.Proofs.YthdoklobbcedcabDoor
namespace Rows

/-- THE TIED CARD OF 'cenotaphlaw03.NameQuotes'. -/
def nameQuotesCard : Claim7 := { stood := { row := nameQuotesRow, standIns := [], harness := (true, "f02b7668e3f8d1c4ad1f7466d335f6f7e61939e86cc2d0db0d631b5e445565c5"), looks := false }, kinds := [], alts := [], laidByText := true, laidKinds := [.data, .pinned], laidTests := true, laidLooks := .later }
def NameQuotesCardSaid : Prop := Claim7.holds Tryd.pinned (.plain (OpenSpec.ofChange nameQuotesSpec)) nameQuotesCard

/-- THE TIED CARD OF 'cenotaphlaw03.NameOrder'. -/
def nameOrderCard : Claim7 := { stood := { row := nameOrderRow, standIns := [], harness := (true, "f02b7668e3f8d1c4ad1f7466d335f6f7e61939e86cc2d0db0d631b5e445565c5"), looks := false }, kinds := [], alts := [], laidByText := true, laidKinds := [.data, .pinned], laidTests := true, laidLooks := .later }
def NameOrderCardSaid : Prop := Claim7.holds Tryd.pinned (.plain (OpenSpec.ofChange nameOrderSpec)) nameOrderCard

/-- THE TIED CARD OF 'cenotaphlaw03.NameParts'. -/
def namePartsCard : Claim7 := { stood := { row := namePartsRow, standIns := [], harness := (true, "f02b7668e3f8d1c4ad1f7466d335f6f7e61939e86cc2d0db0d631b5e445565c5"), looks := false }, kinds := [], alts := [], laidByText := true, laidKinds := [.data, .pinned], laidTests := true, laidLooks := .later }
def NamePartsCardSaid : Prop := Claim7.holds Tryd.pinned (.plain (OpenSpec.ofChange namePartsSpec)) namePartsCard

/-- THE TIED CARD OF 'cenotaphlaw03.NameJoins'. -/
def nameJoinsCard : Claim7 := { stood := { row := nameJoinsRow, standIns := [], harness := (true, "f02b7668e3f8d1c4ad1f7466d335f6f7e61939e86cc2d0db0d631b5e445565c5"), looks := false }, kinds := [], alts := [], laidByText := true, laidKinds := [.data, .pinned], laidTests := true, laidLooks := .later }
def NameJoinsCardSaid : Prop := Claim7.holds Tryd.pinned (.plain (OpenSpec.ofChange nameJoinsSpec)) nameJoinsCard

/-- THE TIED CARD OF 'cenotaphlaw03.NameOnly'. -/
def nameOnlyCard : Claim7 := { stood := { row := nameOnlyRow, standIns := [], harness := (true, "f02b7668e3f8d1c4ad1f7466d335f6f7e61939e86cc2d0db0d631b5e445565c5"), looks := false }, kinds := [], alts := [], laidByText := true, laidKinds := [.data, .pinned], laidTests := true, laidLooks := .later }
def NameOnlyCardSaid : Prop := Claim7.holds Tryd.pinned (.plain (OpenSpec.ofChange nameOnlySpec)) nameOnlyCard

/-- THE SECOND FORM's CARD OF 'cenotaphlaw03.NameQuotes'. -/
def nameQuotesUptoCard : Claim7 := { stood := { row := nameQuotesUptoRow, standIns := [], harness := (true, "f02b7668e3f8d1c4ad1f7466d335f6f7e61939e86cc2d0db0d631b5e445565c5"), looks := false }, kinds := [], alts := [], laidByText := true, laidKinds := [.data, .pinned], laidTests := true, laidLooks := .later }
def NameQuotesUptoCardSaid : Prop := Claim7.holds Tryd.pinned (.plain (OpenSpec.upto nameQuotesSpec)) nameQuotesUptoCard

/-- THE SECOND FORM's CARD OF 'cenotaphlaw03.NameOrder'. -/
def nameOrderUptoCard : Claim7 := { stood := { row := nameOrderUptoRow, standIns := [], harness := (true, "f02b7668e3f8d1c4ad1f7466d335f6f7e61939e86cc2d0db0d631b5e445565c5"), looks := false }, kinds := [], alts := [], laidByText := true, laidKinds := [.data, .pinned], laidTests := true, laidLooks := .later }
def NameOrderUptoCardSaid : Prop := Claim7.holds Tryd.pinned (.plain (OpenSpec.upto nameOrderSpec)) nameOrderUptoCard

/-- THE SECOND FORM's CARD OF 'cenotaphlaw03.NameParts'. -/
def namePartsUptoCard : Claim7 := { stood := { row := namePartsUptoRow, standIns := [], harness := (true, "f02b7668e3f8d1c4ad1f7466d335f6f7e61939e86cc2d0db0d631b5e445565c5"), looks := false }, kinds := [], alts := [], laidByText := true, laidKinds := [.data, .pinned], laidTests := true, laidLooks := .later }
def NamePartsUptoCardSaid : Prop := Claim7.holds Tryd.pinned (.plain (OpenSpec.upto namePartsSpec)) namePartsUptoCard

/-- THE SECOND FORM's CARD OF 'cenotaphlaw03.NameJoins'. -/
def nameJoinsUptoCard : Claim7 := { stood := { row := nameJoinsUptoRow, standIns := [], harness := (true, "f02b7668e3f8d1c4ad1f7466d335f6f7e61939e86cc2d0db0d631b5e445565c5"), looks := false }, kinds := [], alts := [], laidByText := true, laidKinds := [.data, .pinned], laidTests := true, laidLooks := .later }
def NameJoinsUptoCardSaid : Prop := Claim7.holds Tryd.pinned (.plain (OpenSpec.upto nameJoinsSpec)) nameJoinsUptoCard

/-- THE SECOND FORM's CARD OF 'cenotaphlaw03.NameOnly'. -/
def nameOnlyUptoCard : Claim7 := { stood := { row := nameOnlyUptoRow, standIns := [], harness := (true, "f02b7668e3f8d1c4ad1f7466d335f6f7e61939e86cc2d0db0d631b5e445565c5"), looks := false }, kinds := [], alts := [], laidByText := true, laidKinds := [.data, .pinned], laidTests := true, laidLooks := .later }
def NameOnlyUptoCardSaid : Prop := Claim7.holds Tryd.pinned (.plain (OpenSpec.upto nameOnlySpec)) nameOnlyUptoCard
end Rows
end Go.Proofs.YthdoklobbcedcabDoor
