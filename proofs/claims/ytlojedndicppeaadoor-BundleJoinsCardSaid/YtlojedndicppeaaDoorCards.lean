/-
  DERIVED. GIVEN WITH THE SEED: THE CARDS: each row of YtlojedndicppeaaDoorRows.lean that lists a variable, with what it lists TIED to the program's text (the seventh form; the later family's looks); each row that meets fmt, with fmt's text TOLD by the authors' own Lean function (tested against real Go, not proved from fmt's source: count such statements apart). THE CARD IS WHAT COUNTS. Prove the row's statement (the work); the ties are given (YtlojedndicppeaaDoorTie.lean); close each card by the builder's one call (the guide's Derived/Test/ToyasCard.lean, 'card_holds'). Laid BY PROGRAM, IN A SANDBOX (cutbox-door.mjs). By AI agents, Wed Nov 11 2026. No macro, syntax, notation, axiom, sorry.
-/
import Derived.Test.YtlojedndicppeaaDoorRows
import GoSem.ClaimSeven
namespace Go.Proofs.YtlojedndicppeaaDoor
namespace Rows

/-- THE TIED CARD OF 'cenotaphlaw11.BundleBack'. -/
def bundleBackCard : Claim7 := { stood := { row := bundleBackRow, standIns := [], harness := (true, "07969b91de3b2a9d468190159334e3e976dc1bfa256e52456b0d8f293b0c0a54"), looks := true }, kinds := [], alts := [], laidByText := true, laidKinds := [.data, .data, .data], laidTests := true, laidLooks := .later }
def BundleBackCardSaid : Prop := Claim7.holds Tryd.pinned (.plain (OpenSpec.ofChange bundleBackSpec)) bundleBackCard

/-- THE TIED CARD OF 'cenotaphlaw11.BundleLines'. -/
def bundleLinesCard : Claim7 := { stood := { row := bundleLinesRow, standIns := [], harness := (true, "07969b91de3b2a9d468190159334e3e976dc1bfa256e52456b0d8f293b0c0a54"), looks := true }, kinds := [], alts := [], laidByText := true, laidKinds := [.data, .data, .data], laidTests := true, laidLooks := .later }
def BundleLinesCardSaid : Prop := Claim7.holds Tryd.pinned (.plain (OpenSpec.ofChange bundleLinesSpec)) bundleLinesCard

/-- THE TIED CARD OF 'cenotaphlaw11.BundleWhole'. -/
def bundleWholeCard : Claim7 := { stood := { row := bundleWholeRow, standIns := [], harness := (true, "07969b91de3b2a9d468190159334e3e976dc1bfa256e52456b0d8f293b0c0a54"), looks := true }, kinds := [], alts := [], laidByText := true, laidKinds := [.data, .data, .data], laidTests := true, laidLooks := .later }
def BundleWholeCardSaid : Prop := Claim7.holds Tryd.pinned (.plain (OpenSpec.ofChange bundleWholeSpec)) bundleWholeCard

/-- THE TIED CARD OF 'cenotaphlaw11.BundleJoins'. -/
def bundleJoinsCard : Claim7 := { stood := { row := bundleJoinsRow, standIns := [], harness := (true, "07969b91de3b2a9d468190159334e3e976dc1bfa256e52456b0d8f293b0c0a54"), looks := true }, kinds := [], alts := [], laidByText := true, laidKinds := [.data, .data, .data], laidTests := true, laidLooks := .later }
def BundleJoinsCardSaid : Prop := Claim7.holds Tryd.pinned (.plain (OpenSpec.ofChange bundleJoinsSpec)) bundleJoinsCard

/-- THE SECOND FORM's CARD OF 'cenotaphlaw11.BundleBack'. -/
def bundleBackUptoCard : Claim7 := { stood := { row := bundleBackUptoRow, standIns := [], harness := (true, "07969b91de3b2a9d468190159334e3e976dc1bfa256e52456b0d8f293b0c0a54"), looks := true }, kinds := [], alts := [], laidByText := true, laidKinds := [.data, .data, .data], laidTests := true, laidLooks := .later }
def BundleBackUptoCardSaid : Prop := Claim7.holds Tryd.pinned (.plain (OpenSpec.upto bundleBackSpec)) bundleBackUptoCard

/-- THE SECOND FORM's CARD OF 'cenotaphlaw11.BundleLines'. -/
def bundleLinesUptoCard : Claim7 := { stood := { row := bundleLinesUptoRow, standIns := [], harness := (true, "07969b91de3b2a9d468190159334e3e976dc1bfa256e52456b0d8f293b0c0a54"), looks := true }, kinds := [], alts := [], laidByText := true, laidKinds := [.data, .data, .data], laidTests := true, laidLooks := .later }
def BundleLinesUptoCardSaid : Prop := Claim7.holds Tryd.pinned (.plain (OpenSpec.upto bundleLinesSpec)) bundleLinesUptoCard

/-- THE SECOND FORM's CARD OF 'cenotaphlaw11.BundleWhole'. -/
def bundleWholeUptoCard : Claim7 := { stood := { row := bundleWholeUptoRow, standIns := [], harness := (true, "07969b91de3b2a9d468190159334e3e976dc1bfa256e52456b0d8f293b0c0a54"), looks := true }, kinds := [], alts := [], laidByText := true, laidKinds := [.data, .data, .data], laidTests := true, laidLooks := .later }
def BundleWholeUptoCardSaid : Prop := Claim7.holds Tryd.pinned (.plain (OpenSpec.upto bundleWholeSpec)) bundleWholeUptoCard

/-- THE SECOND FORM's CARD OF 'cenotaphlaw11.BundleJoins'. -/
def bundleJoinsUptoCard : Claim7 := { stood := { row := bundleJoinsUptoRow, standIns := [], harness := (true, "07969b91de3b2a9d468190159334e3e976dc1bfa256e52456b0d8f293b0c0a54"), looks := true }, kinds := [], alts := [], laidByText := true, laidKinds := [.data, .data, .data], laidTests := true, laidLooks := .later }
def BundleJoinsUptoCardSaid : Prop := Claim7.holds Tryd.pinned (.plain (OpenSpec.upto bundleJoinsSpec)) bundleJoinsUptoCard
end Rows
end Go.Proofs.YtlojedndicppeaaDoor
