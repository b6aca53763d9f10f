/-
  No cell of these rows narrows 'for every input' (looked for: loops, veiled, ifaces, maps, wideKeys, modest, calm, conditions, laid).
  DERIVED. THE GIVEN ROWS OF THIS SEAT. 11 by the template 'for every input the law returns true; each argument reads behind the call as it read before'; 0 by the template 'total and deterministic' (their statements: YthdoklobbcedcaaTotals.lean).
  GIVEN WITH THE SEED: the statements are not yours to turn. If you find one false, say at which input.
  Laid BY PROGRAM, IN A SANDBOX (cutbox-rows.mjs): the forced cells as the released guide's own fill.sh prints them over the translation eff405b464aa9fda… (all of the seat's roots in one cut). By AI agents, Wed Nov 11 2026. No macro, syntax, notation, axiom, sorry.
-/
import Derived.Test.YthdoklobbcedcaaChecked
import GoSem.Claim
import GoSem.ClaimJoined
import GoSem.ClaimMapViews
import Derived.JoinedTies
import Derived.KernelRfl
namespace Go.Proofs.Ythdoklobbcedcaa
/- THE CELL 'sum', in the pinned program and in every row, IS THE sha256 OF THE DUMP (.gsa) THAT YthdoklobbcedcaaProg.lean LOADS. Nothing in Lean hashes anything: it is a label: what it is worth is what the hold of that sum in a sandbox is worth. -/
noncomputable def Try.pinned : Pinned := { name := "ythdoklobbcedcaa", sum := "eff405b464aa9fda47c1b4d9a171b88f284c2ca36bc0c20a89c5ce178aeab87a", checked := Try.checked }
namespace Rows
def none {H : Type} : Left H := { results := [], args := [] }

/-- 'cenotaphlaw02.ShaOf': WHATEVER THE INPUT: true; the input reads as it did. -/
def shaOfSpec : ChangeSpec := { name := "shaOf", fn := fun _ => fun
  | [d1, d2] => { results := [.lit (.bool true)], args := [d1, d2] }
  | _ => none }
def shaOfRow : OpenClaim := { program := "ythdoklobbcedcaa", sum := "eff405b464aa9fda47c1b4d9a171b88f284c2ca36bc0c20a89c5ce178aeab87a", func := "cenotaph/cenotaphlaw02.ShaOf", spec := "shaOf", inPlace := ["math/bits.Add64"], apart := false }
def ShaOfSaid : Prop := shaOfRow.holds Try.pinned (OpenSpec.ofChange shaOfSpec)

/-- ITS FALSE NEIGHBOUR: 'it returns false'. Refute it at one input. -/
def shaOfWrong : ChangeSpec := { name := "shaOf", fn := fun _ => fun
  | [d1, d2] => { results := [.lit (.bool false)], args := [d1, d2] }
  | _ => none }
def ShaOfWrongFalsely : Prop := shaOfRow.holds Try.pinned (OpenSpec.ofChange shaOfWrong)

/-- 'cenotaphlaw02.ShaPads': WHATEVER THE INPUT: true; the input reads as it did. -/
def shaPadsSpec : ChangeSpec := { name := "shaPads", fn := fun _ => fun
  | [d1, d2] => { results := [.lit (.bool true)], args := [d1, d2] }
  | _ => none }
def shaPadsRow : OpenClaim := { program := "ythdoklobbcedcaa", sum := "eff405b464aa9fda47c1b4d9a171b88f284c2ca36bc0c20a89c5ce178aeab87a", func := "cenotaph/cenotaphlaw02.ShaPads", spec := "shaPads", inPlace := ["math/bits.Add64"], apart := false }
def ShaPadsSaid : Prop := shaPadsRow.holds Try.pinned (OpenSpec.ofChange shaPadsSpec)

/-- ITS FALSE NEIGHBOUR: 'it returns false'. Refute it at one input. -/
def shaPadsWrong : ChangeSpec := { name := "shaPads", fn := fun _ => fun
  | [d1, d2] => { results := [.lit (.bool false)], args := [d1, d2] }
  | _ => none }
def ShaPadsWrongFalsely : Prop := shaPadsRow.holds Try.pinned (OpenSpec.ofChange shaPadsWrong)

/-- 'cenotaphlaw02.ShaSame': WHATEVER THE INPUT: true; the input reads as it did. -/
def shaSameSpec : ChangeSpec := { name := "shaSame", fn := fun _ => fun
  | [d1, d2] => { results := [.lit (.bool true)], args := [d1, d2] }
  | _ => none }
def shaSameRow : OpenClaim := { program := "ythdoklobbcedcaa", sum := "eff405b464aa9fda47c1b4d9a171b88f284c2ca36bc0c20a89c5ce178aeab87a", func := "cenotaph/cenotaphlaw02.ShaSame", spec := "shaSame", inPlace := ["math/bits.Add64"], apart := false }
def ShaSameSaid : Prop := shaSameRow.holds Try.pinned (OpenSpec.ofChange shaSameSpec)

/-- ITS FALSE NEIGHBOUR: 'it returns false'. Refute it at one input. -/
def shaSameWrong : ChangeSpec := { name := "shaSame", fn := fun _ => fun
  | [d1, d2] => { results := [.lit (.bool false)], args := [d1, d2] }
  | _ => none }
def ShaSameWrongFalsely : Prop := shaSameRow.holds Try.pinned (OpenSpec.ofChange shaSameWrong)

/-- 'cenotaphlaw02.ShaText': WHATEVER THE INPUT: true; the input reads as it did. -/
def shaTextSpec : ChangeSpec := { name := "shaText", fn := fun _ => fun
  | [d1, d2] => { results := [.lit (.bool true)], args := [d1, d2] }
  | _ => none }
def shaTextRow : OpenClaim := { program := "ythdoklobbcedcaa", sum := "eff405b464aa9fda47c1b4d9a171b88f284c2ca36bc0c20a89c5ce178aeab87a", func := "cenotaph/cenotaphlaw02.ShaText", spec := "shaText", inPlace := ["math/bits.Add64"], apart := false }
def ShaTextSaid : Prop := shaTextRow.holds Try.pinned (OpenSpec.ofChange shaTextSpec)

/-- ITS FALSE NEIGHBOUR: 'it returns false'. Refute it at one input. -/
def shaTextWrong : ChangeSpec := { name := "shaText", fn := fun _ => fun
  | [d1, d2] => { results := [.lit (.bool false)], args := [d1, d2] }
  | _ => none }
def ShaTextWrongFalsely : Prop := shaTextRow.holds Try.pinned (OpenSpec.ofChange shaTextWrong)

/-- 'cenotaphlaw02.ShaPadEnds': WHATEVER THE INPUT: true; the input reads as it did. -/
def shaPadEndsSpec : ChangeSpec := { name := "shaPadEnds", fn := fun _ => fun
  | [d] => { results := [.lit (.bool true)], args := [d] }
  | _ => none }
def shaPadEndsRow : OpenClaim := { program := "ythdoklobbcedcaa", sum := "eff405b464aa9fda47c1b4d9a171b88f284c2ca36bc0c20a89c5ce178aeab87a", func := "cenotaph/cenotaphlaw02.ShaPadEnds", spec := "shaPadEnds", inPlace := ["math/bits.Add64"], apart := false }
def ShaPadEndsSaid : Prop := shaPadEndsRow.holds Try.pinned (OpenSpec.ofChange shaPadEndsSpec)

/-- ITS FALSE NEIGHBOUR: 'it returns false'. Refute it at one input. -/
def shaPadEndsWrong : ChangeSpec := { name := "shaPadEnds", fn := fun _ => fun
  | [d] => { results := [.lit (.bool false)], args := [d] }
  | _ => none }
def ShaPadEndsWrongFalsely : Prop := shaPadEndsRow.holds Try.pinned (OpenSpec.ofChange shaPadEndsWrong)

/-- 'cenotaphlaw02.ShaLinks': WHATEVER THE INPUT: true; the input reads as it did. -/
def shaLinksSpec : ChangeSpec := { name := "shaLinks", fn := fun _ => fun
  | [d1, d2, d3] => { results := [.lit (.bool true)], args := [d1, d2, d3] }
  | _ => none }
def shaLinksRow : OpenClaim := { program := "ythdoklobbcedcaa", sum := "eff405b464aa9fda47c1b4d9a171b88f284c2ca36bc0c20a89c5ce178aeab87a", func := "cenotaph/cenotaphlaw02.ShaLinks", spec := "shaLinks", inPlace := ["math/bits.Add64"], apart := false }
def ShaLinksSaid : Prop := shaLinksRow.holds Try.pinned (OpenSpec.ofChange shaLinksSpec)

/-- ITS FALSE NEIGHBOUR: 'it returns false'. Refute it at one input. -/
def shaLinksWrong : ChangeSpec := { name := "shaLinks", fn := fun _ => fun
  | [d1, d2, d3] => { results := [.lit (.bool false)], args := [d1, d2, d3] }
  | _ => none }
def ShaLinksWrongFalsely : Prop := shaLinksRow.holds Try.pinned (OpenSpec.ofChange shaLinksWrong)

/-- 'cenotaphlaw17.PoolTells': WHATEVER THE INPUT: true; the input reads as it did. -/
def poolTellsSpec : ChangeSpec := { name := "poolTells", fn := fun _ => fun
  | [d1, d2] => { results := [.lit (.bool true)], args := [d1, d2] }
  | _ => none }
def poolTellsRow : OpenClaim := { program := "ythdoklobbcedcaa", sum := "eff405b464aa9fda47c1b4d9a171b88f284c2ca36bc0c20a89c5ce178aeab87a", func := "cenotaph/cenotaphlaw17.PoolTells", spec := "poolTells", unfollowed := true, recurses := true, apart := false }
def PoolTellsSaid : Prop := poolTellsRow.holds Try.pinned (OpenSpec.ofChange poolTellsSpec)

/-- ITS FALSE NEIGHBOUR: 'it returns false'. Refute it at one input. -/
def poolTellsWrong : ChangeSpec := { name := "poolTells", fn := fun _ => fun
  | [d1, d2] => { results := [.lit (.bool false)], args := [d1, d2] }
  | _ => none }
def PoolTellsWrongFalsely : Prop := poolTellsRow.holds Try.pinned (OpenSpec.ofChange poolTellsWrong)

/-- 'cenotaphlaw17.PoolPicks': WHATEVER THE INPUT: true; the input reads as it did. -/
def poolPicksSpec : ChangeSpec := { name := "poolPicks", fn := fun _ => fun
  | [d] => { results := [.lit (.bool true)], args := [d] }
  | _ => none }
def poolPicksRow : OpenClaim := { program := "ythdoklobbcedcaa", sum := "eff405b464aa9fda47c1b4d9a171b88f284c2ca36bc0c20a89c5ce178aeab87a", func := "cenotaph/cenotaphlaw17.PoolPicks", spec := "poolPicks", unfollowed := true, recurses := true, apart := false }
def PoolPicksSaid : Prop := poolPicksRow.holds Try.pinned (OpenSpec.ofChange poolPicksSpec)

/-- ITS FALSE NEIGHBOUR: 'it returns false'. Refute it at one input. -/
def poolPicksWrong : ChangeSpec := { name := "poolPicks", fn := fun _ => fun
  | [d] => { results := [.lit (.bool false)], args := [d] }
  | _ => none }
def PoolPicksWrongFalsely : Prop := poolPicksRow.holds Try.pinned (OpenSpec.ofChange poolPicksWrong)

/-- 'cenotaphlaw17.PoolVictims': WHATEVER THE INPUT: true; the input reads as it did. -/
def poolVictimsSpec : ChangeSpec := { name := "poolVictims", fn := fun _ => fun
  | [d1, d2] => { results := [.lit (.bool true)], args := [d1, d2] }
  | _ => none }
def poolVictimsRow : OpenClaim := { program := "ythdoklobbcedcaa", sum := "eff405b464aa9fda47c1b4d9a171b88f284c2ca36bc0c20a89c5ce178aeab87a", func := "cenotaph/cenotaphlaw17.PoolVictims", spec := "poolVictims", unfollowed := true, recurses := true, apart := false }
def PoolVictimsSaid : Prop := poolVictimsRow.holds Try.pinned (OpenSpec.ofChange poolVictimsSpec)

/-- ITS FALSE NEIGHBOUR: 'it returns false'. Refute it at one input. -/
def poolVictimsWrong : ChangeSpec := { name := "poolVictims", fn := fun _ => fun
  | [d1, d2] => { results := [.lit (.bool false)], args := [d1, d2] }
  | _ => none }
def PoolVictimsWrongFalsely : Prop := poolVictimsRow.holds Try.pinned (OpenSpec.ofChange poolVictimsWrong)

/-- 'cenotaphlaw17.PoolOrder': WHATEVER THE INPUT: true; the input reads as it did. -/
def poolOrderSpec : ChangeSpec := { name := "poolOrder", fn := fun _ => fun
  | [d] => { results := [.lit (.bool true)], args := [d] }
  | _ => none }
def poolOrderRow : OpenClaim := { program := "ythdoklobbcedcaa", sum := "eff405b464aa9fda47c1b4d9a171b88f284c2ca36bc0c20a89c5ce178aeab87a", func := "cenotaph/cenotaphlaw17.PoolOrder", spec := "poolOrder", unfollowed := true, recurses := true, apart := false }
def PoolOrderSaid : Prop := poolOrderRow.holds Try.pinned (OpenSpec.ofChange poolOrderSpec)

/-- ITS FALSE NEIGHBOUR: 'it returns false'. Refute it at one input. -/
def poolOrderWrong : ChangeSpec := { name := "poolOrder", fn := fun _ => fun
  | [d] => { results := [.lit (.bool false)], args := [d] }
  | _ => none }
def PoolOrderWrongFalsely : Prop := poolOrderRow.holds Try.pinned (OpenSpec.ofChange poolOrderWrong)

/-- 'cenotaphlaw17.PoolBad': WHATEVER THE INPUT: true; the input reads as it did. -/
def poolBadSpec : ChangeSpec := { name := "poolBad", fn := fun _ => fun
  | [d1, d2] => { results := [.lit (.bool true)], args := [d1, d2] }
  | _ => none }
def poolBadRow : OpenClaim := { program := "ythdoklobbcedcaa", sum := "eff405b464aa9fda47c1b4d9a171b88f284c2ca36bc0c20a89c5ce178aeab87a", func := "cenotaph/cenotaphlaw17.PoolBad", spec := "poolBad", unfollowed := true, recurses := true, apart := false }
def PoolBadSaid : Prop := poolBadRow.holds Try.pinned (OpenSpec.ofChange poolBadSpec)

/-- ITS FALSE NEIGHBOUR: 'it returns false'. Refute it at one input. -/
def poolBadWrong : ChangeSpec := { name := "poolBad", fn := fun _ => fun
  | [d1, d2] => { results := [.lit (.bool false)], args := [d1, d2] }
  | _ => none }
def PoolBadWrongFalsely : Prop := poolBadRow.holds Try.pinned (OpenSpec.ofChange poolBadWrong)

/- THE SECOND FORM. 'bulk': how many values and letters a reading holds, each counted each time it is reached (what is shared counts as often as it is met; a slice's spare places count too). A statement '..UptoSaid' is the law's where the arguments, and the package variables that the reading takes, are together of bulk at most 1048576: NARROWER than '..Said'. Prove '..Said' where nothing that the law and all that it calls make is longer than what came in: it says more and counts as full. Else prove '..UptoSaid'. A law counts once. -/
mutual
def uptoBulk {H : Type} : DataW H → Nat
  | .lit (.string bytes) => bytes.length + 1
  | .lit _ => 1
  | .nil => 1
  | .ptr d => uptoBulk d + 1
  | .slice elems spare => uptoBulkAll elems + uptoBulkAll spare + 1
  | .agg parts => uptoBulkAll parts + 1
  | .iface _ d => uptoBulk d + 1
  | .map entries => uptoBulkEntries entries + 1
  | .held _ => 1
def uptoBulkAll {H : Type} : List (DataW H) → Nat
  | [] => 0
  | d :: r => uptoBulk d + uptoBulkAll r
def uptoBulkEntries {H : Type} : List (Lit × DataW H) → Nat
  | [] => 0
  | x :: r => uptoBulkEntry x + uptoBulkEntries r
def uptoBulkEntry {H : Type} : Lit × DataW H → Nat
  | (.string bytes, d) => bytes.length + uptoBulk d + 1
  | (_, d) => uptoBulk d + 1
 end
def uptoSmall : (H : Type) → List (DataW H) → Bool := fun _ ds => decide (uptoBulkAll ds ≤ 1048576)
def OpenSpec.upto (s : _root_.Go.ChangeSpec) : _root_.Go.OpenSpec := { _root_.Go.OpenSpec.ofChange s with cond := some uptoSmall }

/-- 'cenotaphlaw02.ShaOf', WHERE WHAT IT READS IS OF BULK AT MOST 1048576: true; the input reads as it did. -/
def shaOfUptoRow : OpenClaim := { program := "ythdoklobbcedcaa", sum := "eff405b464aa9fda47c1b4d9a171b88f284c2ca36bc0c20a89c5ce178aeab87a", func := "cenotaph/cenotaphlaw02.ShaOf", spec := "shaOf", inPlace := ["math/bits.Add64"], apart := false, narrowed := true }
def ShaOfUptoSaid : Prop := shaOfUptoRow.holds Try.pinned (OpenSpec.upto shaOfSpec)

/-- 'cenotaphlaw02.ShaPads', WHERE WHAT IT READS IS OF BULK AT MOST 1048576: true; the input reads as it did. -/
def shaPadsUptoRow : OpenClaim := { program := "ythdoklobbcedcaa", sum := "eff405b464aa9fda47c1b4d9a171b88f284c2ca36bc0c20a89c5ce178aeab87a", func := "cenotaph/cenotaphlaw02.ShaPads", spec := "shaPads", inPlace := ["math/bits.Add64"], apart := false, narrowed := true }
def ShaPadsUptoSaid : Prop := shaPadsUptoRow.holds Try.pinned (OpenSpec.upto shaPadsSpec)

/-- 'cenotaphlaw02.ShaSame', WHERE WHAT IT READS IS OF BULK AT MOST 1048576: true; the input reads as it did. -/
def shaSameUptoRow : OpenClaim := { program := "ythdoklobbcedcaa", sum := "eff405b464aa9fda47c1b4d9a171b88f284c2ca36bc0c20a89c5ce178aeab87a", func := "cenotaph/cenotaphlaw02.ShaSame", spec := "shaSame", inPlace := ["math/bits.Add64"], apart := false, narrowed := true }
def ShaSameUptoSaid : Prop := shaSameUptoRow.holds Try.pinned (OpenSpec.upto shaSameSpec)

/-- 'cenotaphlaw02.ShaText', WHERE WHAT IT READS IS OF BULK AT MOST 1048576: true; the input reads as it did. -/
def shaTextUptoRow : OpenClaim := { program := "ythdoklobbcedcaa", sum := "eff405b464aa9fda47c1b4d9a171b88f284c2ca36bc0c20a89c5ce178aeab87a", func := "cenotaph/cenotaphlaw02.ShaText", spec := "shaText", inPlace := ["math/bits.Add64"], apart := false, narrowed := true }
def ShaTextUptoSaid : Prop := shaTextUptoRow.holds Try.pinned (OpenSpec.upto shaTextSpec)

/-- 'cenotaphlaw02.ShaPadEnds', WHERE WHAT IT READS IS OF BULK AT MOST 1048576: true; the input reads as it did. -/
def shaPadEndsUptoRow : OpenClaim := { program := "ythdoklobbcedcaa", sum := "eff405b464aa9fda47c1b4d9a171b88f284c2ca36bc0c20a89c5ce178aeab87a", func := "cenotaph/cenotaphlaw02.ShaPadEnds", spec := "shaPadEnds", inPlace := ["math/bits.Add64"], apart := false, narrowed := true }
def ShaPadEndsUptoSaid : Prop := shaPadEndsUptoRow.holds Try.pinned (OpenSpec.upto shaPadEndsSpec)

/-- 'cenotaphlaw02.ShaLinks', WHERE WHAT IT READS IS OF BULK AT MOST 1048576: true; the input reads as it did. -/
def shaLinksUptoRow : OpenClaim := { program := "ythdoklobbcedcaa", sum := "eff405b464aa9fda47c1b4d9a171b88f284c2ca36bc0c20a89c5ce178aeab87a", func := "cenotaph/cenotaphlaw02.ShaLinks", spec := "shaLinks", inPlace := ["math/bits.Add64"], apart := false, narrowed := true }
def ShaLinksUptoSaid : Prop := shaLinksUptoRow.holds Try.pinned (OpenSpec.upto shaLinksSpec)

/-- 'cenotaphlaw17.PoolTells', WHERE WHAT IT READS IS OF BULK AT MOST 1048576: true; the input reads as it did. -/
def poolTellsUptoRow : OpenClaim := { program := "ythdoklobbcedcaa", sum := "eff405b464aa9fda47c1b4d9a171b88f284c2ca36bc0c20a89c5ce178aeab87a", func := "cenotaph/cenotaphlaw17.PoolTells", spec := "poolTells", unfollowed := true, recurses := true, apart := false, narrowed := true }
def PoolTellsUptoSaid : Prop := poolTellsUptoRow.holds Try.pinned (OpenSpec.upto poolTellsSpec)

/-- 'cenotaphlaw17.PoolPicks', WHERE WHAT IT READS IS OF BULK AT MOST 1048576: true; the input reads as it did. -/
def poolPicksUptoRow : OpenClaim := { program := "ythdoklobbcedcaa", sum := "eff405b464aa9fda47c1b4d9a171b88f284c2ca36bc0c20a89c5ce178aeab87a", func := "cenotaph/cenotaphlaw17.PoolPicks", spec := "poolPicks", unfollowed := true, recurses := true, apart := false, narrowed := true }
def PoolPicksUptoSaid : Prop := poolPicksUptoRow.holds Try.pinned (OpenSpec.upto poolPicksSpec)

/-- 'cenotaphlaw17.PoolVictims', WHERE WHAT IT READS IS OF BULK AT MOST 1048576: true; the input reads as it did. -/
def poolVictimsUptoRow : OpenClaim := { program := "ythdoklobbcedcaa", sum := "eff405b464aa9fda47c1b4d9a171b88f284c2ca36bc0c20a89c5ce178aeab87a", func := "cenotaph/cenotaphlaw17.PoolVictims", spec := "poolVictims", unfollowed := true, recurses := true, apart := false, narrowed := true }
def PoolVictimsUptoSaid : Prop := poolVictimsUptoRow.holds Try.pinned (OpenSpec.upto poolVictimsSpec)

/-- 'cenotaphlaw17.PoolOrder', WHERE WHAT IT READS IS OF BULK AT MOST 1048576: true; the input reads as it did. -/
def poolOrderUptoRow : OpenClaim := { program := "ythdoklobbcedcaa", sum := "eff405b464aa9fda47c1b4d9a171b88f284c2ca36bc0c20a89c5ce178aeab87a", func := "cenotaph/cenotaphlaw17.PoolOrder", spec := "poolOrder", unfollowed := true, recurses := true, apart := false, narrowed := true }
def PoolOrderUptoSaid : Prop := poolOrderUptoRow.holds Try.pinned (OpenSpec.upto poolOrderSpec)

/-- 'cenotaphlaw17.PoolBad', WHERE WHAT IT READS IS OF BULK AT MOST 1048576: true; the input reads as it did. -/
def poolBadUptoRow : OpenClaim := { program := "ythdoklobbcedcaa", sum := "eff405b464aa9fda47c1b4d9a171b88f284c2ca36bc0c20a89c5ce178aeab87a", func := "cenotaph/cenotaphlaw17.PoolBad", spec := "poolBad", unfollowed := true, recurses := true, apart := false, narrowed := true }
def PoolBadUptoSaid : Prop := poolBadUptoRow.holds Try.pinned (OpenSpec.upto poolBadSpec)

end Rows
end Go.Proofs.Ythdoklobbcedcaa
