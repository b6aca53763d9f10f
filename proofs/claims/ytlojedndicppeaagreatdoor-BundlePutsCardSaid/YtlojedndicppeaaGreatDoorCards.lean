/-
  DERIVED. GIVEN WITH THE SEED: THE CARDS: each row of YtlojedndicppeaaGreatDoorRows.lean that lists a variable, with what it lists TIED to the program's text (the seventh form; the later family's looks); each row that meets fmt, with fmt's text TOLD by the authors' own Lean function (tested against real Go, not proved from fmt's source: count such statements apart). THE CARD IS WHAT COUNTS. Prove the row's statement (the work); the ties are given (YtlojedndicppeaaGreatDoorTie.lean); close each card by the builder's one call (the guide's Derived/Test/ToyasCard.lean, 'card_holds'). Laid BY PROGRAM, IN A SANDBOX (cutbox-door.mjs). By AI agents, Wed Nov 11 2026. No macro, syntax, notation, axiom, sorry.
-/
import Derived.Test.YtlojedndicppeaaGreatDoorRows
import GoSem.ClaimSeven
namespace Go.Proofs.YtlojedndicppeaaGreatDoor
namespace Rows

/-- THE TIED CARD OF 'cenotaphlaw11.BundlePuts'. -/
def bundlePutsCard : Claim7 := { stood := { row := bundlePutsRow, standIns := [], harness := (true, "1330a98ff2bcf2bb2be324c13995ad1e96d733381e0fa1d55ea34ee6b20373c5"), looks := true }, kinds := [], alts := [], laidByText := true, laidKinds := [.data, .data, .data], laidTests := true, laidLooks := .later }
def BundlePutsCardSaid : Prop := Claim7.holds Tryz.pinned (.plain (OpenSpec.ofChange bundlePutsSpec)) bundlePutsCard

/-- THE TIED CARD OF 'cenotaphlaw11.BundleGets'. -/
def bundleGetsCard : Claim7 := { stood := { row := bundleGetsRow, standIns := [], harness := (true, "1330a98ff2bcf2bb2be324c13995ad1e96d733381e0fa1d55ea34ee6b20373c5"), looks := true }, kinds := [], alts := [], laidByText := true, laidKinds := [.data, .data, .data], laidTests := true, laidLooks := .later }
def BundleGetsCardSaid : Prop := Claim7.holds Tryz.pinned (.plain (OpenSpec.ofChange bundleGetsSpec)) bundleGetsCard

/-- THE TIED CARD OF 'cenotaphlaw11.BundleExports'. -/
def bundleExportsCard : Claim7 := { stood := { row := bundleExportsRow, standIns := [], harness := (true, "1330a98ff2bcf2bb2be324c13995ad1e96d733381e0fa1d55ea34ee6b20373c5"), looks := true }, kinds := [], alts := [], laidByText := true, laidKinds := [.data, .data, .data], laidTests := true, laidLooks := .later }
def BundleExportsCardSaid : Prop := Claim7.holds Tryz.pinned (.plain (OpenSpec.ofChange bundleExportsSpec)) bundleExportsCard

/-- THE SECOND FORM's CARD OF 'cenotaphlaw11.BundlePuts'. -/
def bundlePutsUptoCard : Claim7 := { stood := { row := bundlePutsUptoRow, standIns := [], harness := (true, "1330a98ff2bcf2bb2be324c13995ad1e96d733381e0fa1d55ea34ee6b20373c5"), looks := true }, kinds := [], alts := [], laidByText := true, laidKinds := [.data, .data, .data], laidTests := true, laidLooks := .later }
def BundlePutsUptoCardSaid : Prop := Claim7.holds Tryz.pinned (.plain (OpenSpec.upto bundlePutsSpec)) bundlePutsUptoCard

/-- THE SECOND FORM's CARD OF 'cenotaphlaw11.BundleGets'. -/
def bundleGetsUptoCard : Claim7 := { stood := { row := bundleGetsUptoRow, standIns := [], harness := (true, "1330a98ff2bcf2bb2be324c13995ad1e96d733381e0fa1d55ea34ee6b20373c5"), looks := true }, kinds := [], alts := [], laidByText := true, laidKinds := [.data, .data, .data], laidTests := true, laidLooks := .later }
def BundleGetsUptoCardSaid : Prop := Claim7.holds Tryz.pinned (.plain (OpenSpec.upto bundleGetsSpec)) bundleGetsUptoCard

/-- THE SECOND FORM's CARD OF 'cenotaphlaw11.BundleExports'. -/
def bundleExportsUptoCard : Claim7 := { stood := { row := bundleExportsUptoRow, standIns := [], harness := (true, "1330a98ff2bcf2bb2be324c13995ad1e96d733381e0fa1d55ea34ee6b20373c5"), looks := true }, kinds := [], alts := [], laidByText := true, laidKinds := [.data, .data, .data], laidTests := true, laidLooks := .later }
def BundleExportsUptoCardSaid : Prop := Claim7.holds Tryz.pinned (.plain (OpenSpec.upto bundleExportsSpec)) bundleExportsUptoCard
end Rows
end Go.Proofs.YtlojedndicppeaaGreatDoor
