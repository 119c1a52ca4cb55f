/-
  DERIVED. GIVEN WITH THE SEED: THE CARDS: each row of YtlnbbioponmcfaaDoorRows.lean that lists a variable, with what it lists TIED to the program's text (the seventh form; the later family's looks); each row that meets fmt, with fmt's text TOLD by the authors' own Lean function (tested against real Go, not proved from fmt's source: count such statements apart). THE CARD IS WHAT COUNTS. Prove the row's statement (the work); the ties are given (YtlnbbioponmcfaaDoorTie.lean); close each card by the builder's one call (the guide's Derived/Test/ToyasCard.lean, 'card_holds'). Laid BY PROGRAM, IN A SANDBOX (cutbox-door.mjs). By AI agents, Wed Nov 11 2026. No macro, syntax, notation, axiom, sorry.
-/
import Derived.Test.YtlnbbioponmcfaaDoorRows
import GoSem.ClaimSeven
namespace Go.Proofs.YtlnbbioponmcfaaDoor
namespace Rows

/-- THE TIED CARD OF 'skywavelaw02.EchoSums'. -/
def echoSumsCard : Claim7 := { stood := { row := echoSumsRow, standIns := [], harness := (true, "0ecc8a61e65eb6c0c58fb9edb5e1b819993401a3d0731c3acce3c326d336ccb4"), looks := false }, kinds := [], alts := [], laidByText := true, laidKinds := [.data, .data, .data], laidTests := true, laidLooks := .later }
def EchoSumsCardSaid : Prop := Claim7.holds Tryd.pinned (.plain (OpenSpec.ofChange echoSumsSpec)) echoSumsCard

/-- THE SECOND FORM's CARD OF 'skywavelaw02.EchoSums'. -/
def echoSumsUptoCard : Claim7 := { stood := { row := echoSumsUptoRow, standIns := [], harness := (true, "0ecc8a61e65eb6c0c58fb9edb5e1b819993401a3d0731c3acce3c326d336ccb4"), looks := false }, kinds := [], alts := [], laidByText := true, laidKinds := [.data, .data, .data], laidTests := true, laidLooks := .later }
def EchoSumsUptoCardSaid : Prop := Claim7.holds Tryd.pinned (.plain (OpenSpec.upto echoSumsSpec)) echoSumsUptoCard
end Rows
end Go.Proofs.YtlnbbioponmcfaaDoor
