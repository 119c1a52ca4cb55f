/-
  DERIVED. GIVEN WITH THE SEED: THE CARDS: each row of YtlnbbioponmcfaaGreatDoorRows.lean that lists a variable, with what it lists TIED to the program's text (the seventh form; the later family's looks); each row that meets fmt, with fmt's text TOLD by the authors' own Lean function (tested against real Go, not proved from fmt's source: count such statements apart). THE CARD IS WHAT COUNTS. Prove the row's statement (the work); the ties are given (YtlnbbioponmcfaaGreatDoorTie.lean); close each card by the builder's one call (the guide's Derived/Test/ToyasCard.lean, 'card_holds'). Laid BY PROGRAM, IN A SANDBOX (cutbox-door.mjs). By AI agents, Wed Nov 11 2026. No macro, syntax, notation, axiom, sorry.
-/
import Derived.Test.YtlnbbioponmcfaaGreatDoorRows
import GoSem.ClaimSeven
namespace Go.Proofs.YtlnbbioponmcfaaGreatDoor
namespace Rows

/-- THE TIED CARD OF 'skywavetop.TopEchoSeparated'. -/
def topEchoSeparatedCard : Claim7 := { stood := { row := topEchoSeparatedRow, standIns := [], harness := (true, "e1b7b30c03af32b93e171e01339d10362ee926eaa5c057fae50548fe69103081"), looks := true }, kinds := [], alts := [], laidByText := true, laidKinds := [.data, .data, .data, .data, .sentinel, .sentinel, .pinned], laidTests := true, laidLooks := .later }
def TopEchoSeparatedCardSaid : Prop := Claim7.holds Tryz.pinned (.plain (OpenSpec.ofChange topEchoSeparatedSpec)) topEchoSeparatedCard

/-- THE TIED CARD OF 'skywavelaw02.EchoStrings'. -/
def echoStringsCard : Claim7 := { stood := { row := echoStringsRow, standIns := [], harness := (true, "e1b7b30c03af32b93e171e01339d10362ee926eaa5c057fae50548fe69103081"), looks := true }, kinds := [], alts := [], laidByText := true, laidKinds := [.data, .data, .data, .data, .sentinel, .sentinel, .pinned], laidTests := true, laidLooks := .later }
def EchoStringsCardSaid : Prop := Claim7.holds Tryz.pinned (.plain (OpenSpec.ofChange echoStringsSpec)) echoStringsCard

/-- THE SECOND FORM's CARD OF 'skywavetop.TopEchoSeparated'. -/
def topEchoSeparatedUptoCard : Claim7 := { stood := { row := topEchoSeparatedUptoRow, standIns := [], harness := (true, "e1b7b30c03af32b93e171e01339d10362ee926eaa5c057fae50548fe69103081"), looks := true }, kinds := [], alts := [], laidByText := true, laidKinds := [.data, .data, .data, .data, .sentinel, .sentinel, .pinned], laidTests := true, laidLooks := .later }
def TopEchoSeparatedUptoCardSaid : Prop := Claim7.holds Tryz.pinned (.plain (OpenSpec.upto topEchoSeparatedSpec)) topEchoSeparatedUptoCard

/-- THE SECOND FORM's CARD OF 'skywavelaw02.EchoStrings'. -/
def echoStringsUptoCard : Claim7 := { stood := { row := echoStringsUptoRow, standIns := [], harness := (true, "e1b7b30c03af32b93e171e01339d10362ee926eaa5c057fae50548fe69103081"), looks := true }, kinds := [], alts := [], laidByText := true, laidKinds := [.data, .data, .data, .data, .sentinel, .sentinel, .pinned], laidTests := true, laidLooks := .later }
def EchoStringsUptoCardSaid : Prop := Claim7.holds Tryz.pinned (.plain (OpenSpec.upto echoStringsSpec)) echoStringsUptoCard
end Rows
end Go.Proofs.YtlnbbioponmcfaaGreatDoor
