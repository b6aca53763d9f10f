/-
  DERIVED. GIVEN WITH THE SEED: THE CARDS: each row of YthdoklobbcedcacDoorRows.lean that lists a variable, with what it lists TIED to the program's text (the seventh form; the later family's looks); each row that meets fmt, with fmt's text TOLD by the authors' own Lean function (tested against real Go, not proved from fmt's source: count such statements apart). THE CARD IS WHAT COUNTS. Prove the row's statement (the work); the ties are given (YthdoklobbcedcacDoorTie.lean); close each card by the builder's one call (the guide's Derived/Test/ToyasCard.lean, 'card_holds'). Laid BY PROGRAM, IN A SANDBOX (cutbox-door.mjs). By AI agents, Wed Nov 11 2026. No macro, syntax, notation, axiom, sorry.
-/
import Derived.Test.YthdoklobbcedcacDoorRows
import GoSem.ClaimSeven
namespace Go.Proofs.YthdoklobbcedcacDoor
namespace Rows

/-- THE TIED CARD OF 'cenotaphlaw07.RuleTells'. -/
def ruleTellsCard : Claim7 := { stood := { row := ruleTellsRow, standIns := [], harness := (true, "92f1fb33b1ad746ee1304de2774de8a47710df80535a634b5896baccb5cb5bc8"), looks := true }, kinds := [], alts := [], laidByText := true, laidKinds := [.data, .pinned], laidTests := true, laidLooks := .later }
def RuleTellsCardSaid : Prop := Claim7.holds Tryd.pinned (.plain (OpenSpec.ofChange ruleTellsSpec)) ruleTellsCard

/-- THE TIED CARD OF 'cenotaphlaw07.RuleFloor'. -/
def ruleFloorCard : Claim7 := { stood := { row := ruleFloorRow, standIns := [], harness := (true, "92f1fb33b1ad746ee1304de2774de8a47710df80535a634b5896baccb5cb5bc8"), looks := true }, kinds := [], alts := [], laidByText := true, laidKinds := [.data, .pinned], laidTests := true, laidLooks := .later }
def RuleFloorCardSaid : Prop := Claim7.holds Tryd.pinned (.plain (OpenSpec.ofChange ruleFloorSpec)) ruleFloorCard

/-- THE TIED CARD OF 'cenotaphlaw07.RuleKeeps'. -/
def ruleKeepsCard : Claim7 := { stood := { row := ruleKeepsRow, standIns := [], harness := (true, "92f1fb33b1ad746ee1304de2774de8a47710df80535a634b5896baccb5cb5bc8"), looks := true }, kinds := [], alts := [], laidByText := true, laidKinds := [.data, .pinned], laidTests := true, laidLooks := .later }
def RuleKeepsCardSaid : Prop := Claim7.holds Tryd.pinned (.plain (OpenSpec.ofChange ruleKeepsSpec)) ruleKeepsCard

/-- THE TIED CARD OF 'cenotaphlaw07.RuleHolds'. -/
def ruleHoldsCard : Claim7 := { stood := { row := ruleHoldsRow, standIns := [], harness := (true, "92f1fb33b1ad746ee1304de2774de8a47710df80535a634b5896baccb5cb5bc8"), looks := true }, kinds := [], alts := [], laidByText := true, laidKinds := [.data, .pinned], laidTests := true, laidLooks := .later }
def RuleHoldsCardSaid : Prop := Claim7.holds Tryd.pinned (.plain (OpenSpec.ofChange ruleHoldsSpec)) ruleHoldsCard

/-- THE TIED CARD OF 'cenotaphlaw07.RuleLabels'. -/
def ruleLabelsCard : Claim7 := { stood := { row := ruleLabelsRow, standIns := [], harness := (true, "92f1fb33b1ad746ee1304de2774de8a47710df80535a634b5896baccb5cb5bc8"), looks := true }, kinds := [], alts := [], laidByText := true, laidKinds := [.data, .pinned], laidTests := true, laidLooks := .later }
def RuleLabelsCardSaid : Prop := Claim7.holds Tryd.pinned (.plain (OpenSpec.ofChange ruleLabelsSpec)) ruleLabelsCard

/-- THE TIED CARD OF 'cenotaphlaw07.RuleExtends'. -/
def ruleExtendsCard : Claim7 := { stood := { row := ruleExtendsRow, standIns := [], harness := (true, "92f1fb33b1ad746ee1304de2774de8a47710df80535a634b5896baccb5cb5bc8"), looks := true }, kinds := [], alts := [], laidByText := true, laidKinds := [.data, .pinned], laidTests := true, laidLooks := .later }
def RuleExtendsCardSaid : Prop := Claim7.holds Tryd.pinned (.plain (OpenSpec.ofChange ruleExtendsSpec)) ruleExtendsCard

/-- THE TIED CARD OF 'cenotaphlaw08.FileDoes'. -/
def fileDoesCard : Claim7 := { stood := { row := fileDoesRow, standIns := [], harness := (true, "92f1fb33b1ad746ee1304de2774de8a47710df80535a634b5896baccb5cb5bc8"), looks := true }, kinds := [], alts := [], laidByText := true, laidKinds := [.data, .pinned], laidTests := true, laidLooks := .later }
def FileDoesCardSaid : Prop := Claim7.holds Tryd.pinned (.plain (OpenSpec.ofChange fileDoesSpec)) fileDoesCard

/-- THE SECOND FORM's CARD OF 'cenotaphlaw07.RuleTells'. -/
def ruleTellsUptoCard : Claim7 := { stood := { row := ruleTellsUptoRow, standIns := [], harness := (true, "92f1fb33b1ad746ee1304de2774de8a47710df80535a634b5896baccb5cb5bc8"), looks := true }, kinds := [], alts := [], laidByText := true, laidKinds := [.data, .pinned], laidTests := true, laidLooks := .later }
def RuleTellsUptoCardSaid : Prop := Claim7.holds Tryd.pinned (.plain (OpenSpec.upto ruleTellsSpec)) ruleTellsUptoCard

/-- THE SECOND FORM's CARD OF 'cenotaphlaw07.RuleFloor'. -/
def ruleFloorUptoCard : Claim7 := { stood := { row := ruleFloorUptoRow, standIns := [], harness := (true, "92f1fb33b1ad746ee1304de2774de8a47710df80535a634b5896baccb5cb5bc8"), looks := true }, kinds := [], alts := [], laidByText := true, laidKinds := [.data, .pinned], laidTests := true, laidLooks := .later }
def RuleFloorUptoCardSaid : Prop := Claim7.holds Tryd.pinned (.plain (OpenSpec.upto ruleFloorSpec)) ruleFloorUptoCard

/-- THE SECOND FORM's CARD OF 'cenotaphlaw07.RuleKeeps'. -/
def ruleKeepsUptoCard : Claim7 := { stood := { row := ruleKeepsUptoRow, standIns := [], harness := (true, "92f1fb33b1ad746ee1304de2774de8a47710df80535a634b5896baccb5cb5bc8"), looks := true }, kinds := [], alts := [], laidByText := true, laidKinds := [.data, .pinned], laidTests := true, laidLooks := .later }
def RuleKeepsUptoCardSaid : Prop := Claim7.holds Tryd.pinned (.plain (OpenSpec.upto ruleKeepsSpec)) ruleKeepsUptoCard

/-- THE SECOND FORM's CARD OF 'cenotaphlaw07.RuleHolds'. -/
def ruleHoldsUptoCard : Claim7 := { stood := { row := ruleHoldsUptoRow, standIns := [], harness := (true, "92f1fb33b1ad746ee1304de2774de8a47710df80535a634b5896baccb5cb5bc8"), looks := true }, kinds := [], alts := [], laidByText := true, laidKinds := [.data, .pinned], laidTests := true, laidLooks := .later }
def RuleHoldsUptoCardSaid : Prop := Claim7.holds Tryd.pinned (.plain (OpenSpec.upto ruleHoldsSpec)) ruleHoldsUptoCard

/-- THE SECOND FORM's CARD OF 'cenotaphlaw07.RuleLabels'. -/
def ruleLabelsUptoCard : Claim7 := { stood := { row := ruleLabelsUptoRow, standIns := [], harness := (true, "92f1fb33b1ad746ee1304de2774de8a47710df80535a634b5896baccb5cb5bc8"), looks := true }, kinds := [], alts := [], laidByText := true, laidKinds := [.data, .pinned], laidTests := true, laidLooks := .later }
def RuleLabelsUptoCardSaid : Prop := Claim7.holds Tryd.pinned (.plain (OpenSpec.upto ruleLabelsSpec)) ruleLabelsUptoCard

/-- THE SECOND FORM's CARD OF 'cenotaphlaw07.RuleExtends'. -/
def ruleExtendsUptoCard : Claim7 := { stood := { row := ruleExtendsUptoRow, standIns := [], harness := (true, "92f1fb33b1ad746ee1304de2774de8a47710df80535a634b5896baccb5cb5bc8"), looks := true }, kinds := [], alts := [], laidByText := true, laidKinds := [.data, .pinned], laidTests := true, laidLooks := .later }
def RuleExtendsUptoCardSaid : Prop := Claim7.holds Tryd.pinned (.plain (OpenSpec.upto ruleExtendsSpec)) ruleExtendsUptoCard

/-- THE SECOND FORM's CARD OF 'cenotaphlaw08.FileDoes'. -/
def fileDoesUptoCard : Claim7 := { stood := { row := fileDoesUptoRow, standIns := [], harness := (true, "92f1fb33b1ad746ee1304de2774de8a47710df80535a634b5896baccb5cb5bc8"), looks := true }, kinds := [], alts := [], laidByText := true, laidKinds := [.data, .pinned], laidTests := true, laidLooks := .later }
def FileDoesUptoCardSaid : Prop := Claim7.holds Tryd.pinned (.plain (OpenSpec.upto fileDoesSpec)) fileDoesUptoCard
end Rows
end Go.Proofs.YthdoklobbcedcacDoor
