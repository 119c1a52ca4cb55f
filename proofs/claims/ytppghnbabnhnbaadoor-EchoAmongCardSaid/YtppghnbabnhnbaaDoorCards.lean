/-
  DERIVED. GIVEN WITH THE SEED: THE CARDS: each row of YtppghnbabnhnbaaDoorRows.lean that lists a variable, with what it lists TIED to the program's text (the seventh form; the later family's looks); each row that meets fmt, with fmt's text TOLD by the authors' own Lean function (tested against real Go, not proved from fmt's source: count such statements apart). THE CARD IS WHAT COUNTS. Prove the row's statement (the work); the ties are given (YtppghnbabnhnbaaDoorTie.lean); close each card by the builder's one call (the guide's Derived/Test/ToyasCard.lean, 'card_holds'). Laid BY PROGRAM, IN A SANDBOX (cutbox-door.mjs). By AI agents, Wed Nov 11 2026. No macro, syntax, notation, axiom, sorry.
-/
import Derived.Test.YtppghnbabnhnbaaDoorRows
import GoSem.ClaimSeven
namespace Go.Proofs.YtppghnbabnhnbaaDoor
namespace Rows

/-- THE TIED CARD OF 'skywavetop.TopEchoInInterval'. -/
def topEchoInIntervalCard : Claim7 := { stood := { row := topEchoInIntervalRow, standIns := [], harness := (true, "c35972c2138824ba830ca3c1035da5ff4f68e926b3e6e537c7ba685a338a9207"), looks := false }, kinds := [], alts := [], laidByText := true, laidKinds := [.data, .data, .data], laidTests := true, laidLooks := .later }
def TopEchoInIntervalCardSaid : Prop := Claim7.holds Tryd.pinned (.plain (OpenSpec.ofChange topEchoInIntervalSpec)) topEchoInIntervalCard

/-- THE TIED CARD OF 'skywavelaw02.EchoSpacings'. -/
def echoSpacingsCard : Claim7 := { stood := { row := echoSpacingsRow, standIns := [], harness := (true, "c35972c2138824ba830ca3c1035da5ff4f68e926b3e6e537c7ba685a338a9207"), looks := false }, kinds := [], alts := [], laidByText := true, laidKinds := [.data, .data, .data], laidTests := true, laidLooks := .later }
def EchoSpacingsCardSaid : Prop := Claim7.holds Tryd.pinned (.plain (OpenSpec.ofChange echoSpacingsSpec)) echoSpacingsCard

/-- THE TIED CARD OF 'skywavelaw02.EchoRuled'. -/
def echoRuledCard : Claim7 := { stood := { row := echoRuledRow, standIns := [], harness := (true, "c35972c2138824ba830ca3c1035da5ff4f68e926b3e6e537c7ba685a338a9207"), looks := false }, kinds := [], alts := [], laidByText := true, laidKinds := [.data, .data, .data], laidTests := true, laidLooks := .later }
def EchoRuledCardSaid : Prop := Claim7.holds Tryd.pinned (.plain (OpenSpec.ofChange echoRuledSpec)) echoRuledCard

/-- THE TIED CARD OF 'skywavelaw02.EchoTurns'. -/
def echoTurnsCard : Claim7 := { stood := { row := echoTurnsRow, standIns := [], harness := (true, "c35972c2138824ba830ca3c1035da5ff4f68e926b3e6e537c7ba685a338a9207"), looks := false }, kinds := [], alts := [], laidByText := true, laidKinds := [.data, .data, .data], laidTests := true, laidLooks := .later }
def EchoTurnsCardSaid : Prop := Claim7.holds Tryd.pinned (.plain (OpenSpec.ofChange echoTurnsSpec)) echoTurnsCard

/-- THE TIED CARD OF 'skywavelaw02.EchoTagged'. -/
def echoTaggedCard : Claim7 := { stood := { row := echoTaggedRow, standIns := [], harness := (true, "c35972c2138824ba830ca3c1035da5ff4f68e926b3e6e537c7ba685a338a9207"), looks := false }, kinds := [], alts := [], laidByText := true, laidKinds := [.data, .data, .data], laidTests := true, laidLooks := .later }
def EchoTaggedCardSaid : Prop := Claim7.holds Tryd.pinned (.plain (OpenSpec.ofChange echoTaggedSpec)) echoTaggedCard

/-- THE TIED CARD OF 'skywavelaw02.EchoOctants'. -/
def echoOctantsCard : Claim7 := { stood := { row := echoOctantsRow, standIns := [], harness := (true, "c35972c2138824ba830ca3c1035da5ff4f68e926b3e6e537c7ba685a338a9207"), looks := false }, kinds := [], alts := [], laidByText := true, laidKinds := [.data, .data, .data], laidTests := true, laidLooks := .later }
def EchoOctantsCardSaid : Prop := Claim7.holds Tryd.pinned (.plain (OpenSpec.ofChange echoOctantsSpec)) echoOctantsCard

/-- THE TIED CARD OF 'skywavelaw02.EchoLines'. -/
def echoLinesCard : Claim7 := { stood := { row := echoLinesRow, standIns := [], harness := (true, "c35972c2138824ba830ca3c1035da5ff4f68e926b3e6e537c7ba685a338a9207"), looks := false }, kinds := [], alts := [], laidByText := true, laidKinds := [.data, .data, .data], laidTests := true, laidLooks := .later }
def EchoLinesCardSaid : Prop := Claim7.holds Tryd.pinned (.plain (OpenSpec.ofChange echoLinesSpec)) echoLinesCard

/-- THE TIED CARD OF 'skywavelaw02.EchoSums'. -/
def echoSumsCard : Claim7 := { stood := { row := echoSumsRow, standIns := [], harness := (true, "c35972c2138824ba830ca3c1035da5ff4f68e926b3e6e537c7ba685a338a9207"), looks := false }, kinds := [], alts := [], laidByText := true, laidKinds := [.data, .data, .data], laidTests := true, laidLooks := .later }
def EchoSumsCardSaid : Prop := Claim7.holds Tryd.pinned (.plain (OpenSpec.ofChange echoSumsSpec)) echoSumsCard

/-- THE TIED CARD OF 'skywavelaw02.EchoSplits'. -/
def echoSplitsCard : Claim7 := { stood := { row := echoSplitsRow, standIns := [], harness := (true, "c35972c2138824ba830ca3c1035da5ff4f68e926b3e6e537c7ba685a338a9207"), looks := false }, kinds := [], alts := [], laidByText := true, laidKinds := [.data, .data, .data], laidTests := true, laidLooks := .later }
def EchoSplitsCardSaid : Prop := Claim7.holds Tryd.pinned (.plain (OpenSpec.ofChange echoSplitsSpec)) echoSplitsCard

/-- THE TIED CARD OF 'skywavelaw02.EchoSeparated'. -/
def echoSeparatedCard : Claim7 := { stood := { row := echoSeparatedRow, standIns := [], harness := (true, "c35972c2138824ba830ca3c1035da5ff4f68e926b3e6e537c7ba685a338a9207"), looks := false }, kinds := [], alts := [], laidByText := true, laidKinds := [.data, .data, .data], laidTests := true, laidLooks := .later }
def EchoSeparatedCardSaid : Prop := Claim7.holds Tryd.pinned (.plain (OpenSpec.ofChange echoSeparatedSpec)) echoSeparatedCard

/-- THE TIED CARD OF 'skywavelaw02.EchoPhases'. -/
def echoPhasesCard : Claim7 := { stood := { row := echoPhasesRow, standIns := [], harness := (true, "c35972c2138824ba830ca3c1035da5ff4f68e926b3e6e537c7ba685a338a9207"), looks := false }, kinds := [], alts := [], laidByText := true, laidKinds := [.data, .data, .data], laidTests := true, laidLooks := .later }
def EchoPhasesCardSaid : Prop := Claim7.holds Tryd.pinned (.plain (OpenSpec.ofChange echoPhasesSpec)) echoPhasesCard

/-- THE TIED CARD OF 'skywavelaw02.EchoAmong'. -/
def echoAmongCard : Claim7 := { stood := { row := echoAmongRow, standIns := [], harness := (true, "c35972c2138824ba830ca3c1035da5ff4f68e926b3e6e537c7ba685a338a9207"), looks := false }, kinds := [], alts := [], laidByText := true, laidKinds := [.data, .data, .data], laidTests := true, laidLooks := .later }
def EchoAmongCardSaid : Prop := Claim7.holds Tryd.pinned (.plain (OpenSpec.ofChange echoAmongSpec)) echoAmongCard

/-- THE TIED CARD OF 'skywavelaw02.EchoDirections'. -/
def echoDirectionsCard : Claim7 := { stood := { row := echoDirectionsRow, standIns := [], harness := (true, "c35972c2138824ba830ca3c1035da5ff4f68e926b3e6e537c7ba685a338a9207"), looks := false }, kinds := [], alts := [], laidByText := true, laidKinds := [.data, .data, .data], laidTests := true, laidLooks := .later }
def EchoDirectionsCardSaid : Prop := Claim7.holds Tryd.pinned (.plain (OpenSpec.ofChange echoDirectionsSpec)) echoDirectionsCard

/-- THE SECOND FORM's CARD OF 'skywavetop.TopEchoInInterval'. -/
def topEchoInIntervalUptoCard : Claim7 := { stood := { row := topEchoInIntervalUptoRow, standIns := [], harness := (true, "c35972c2138824ba830ca3c1035da5ff4f68e926b3e6e537c7ba685a338a9207"), looks := false }, kinds := [], alts := [], laidByText := true, laidKinds := [.data, .data, .data], laidTests := true, laidLooks := .later }
def TopEchoInIntervalUptoCardSaid : Prop := Claim7.holds Tryd.pinned (.plain (OpenSpec.upto topEchoInIntervalSpec)) topEchoInIntervalUptoCard

/-- THE SECOND FORM's CARD OF 'skywavelaw02.EchoSpacings'. -/
def echoSpacingsUptoCard : Claim7 := { stood := { row := echoSpacingsUptoRow, standIns := [], harness := (true, "c35972c2138824ba830ca3c1035da5ff4f68e926b3e6e537c7ba685a338a9207"), looks := false }, kinds := [], alts := [], laidByText := true, laidKinds := [.data, .data, .data], laidTests := true, laidLooks := .later }
def EchoSpacingsUptoCardSaid : Prop := Claim7.holds Tryd.pinned (.plain (OpenSpec.upto echoSpacingsSpec)) echoSpacingsUptoCard

/-- THE SECOND FORM's CARD OF 'skywavelaw02.EchoRuled'. -/
def echoRuledUptoCard : Claim7 := { stood := { row := echoRuledUptoRow, standIns := [], harness := (true, "c35972c2138824ba830ca3c1035da5ff4f68e926b3e6e537c7ba685a338a9207"), looks := false }, kinds := [], alts := [], laidByText := true, laidKinds := [.data, .data, .data], laidTests := true, laidLooks := .later }
def EchoRuledUptoCardSaid : Prop := Claim7.holds Tryd.pinned (.plain (OpenSpec.upto echoRuledSpec)) echoRuledUptoCard

/-- THE SECOND FORM's CARD OF 'skywavelaw02.EchoTurns'. -/
def echoTurnsUptoCard : Claim7 := { stood := { row := echoTurnsUptoRow, standIns := [], harness := (true, "c35972c2138824ba830ca3c1035da5ff4f68e926b3e6e537c7ba685a338a9207"), looks := false }, kinds := [], alts := [], laidByText := true, laidKinds := [.data, .data, .data], laidTests := true, laidLooks := .later }
def EchoTurnsUptoCardSaid : Prop := Claim7.holds Tryd.pinned (.plain (OpenSpec.upto echoTurnsSpec)) echoTurnsUptoCard

/-- THE SECOND FORM's CARD OF 'skywavelaw02.EchoTagged'. -/
def echoTaggedUptoCard : Claim7 := { stood := { row := echoTaggedUptoRow, standIns := [], harness := (true, "c35972c2138824ba830ca3c1035da5ff4f68e926b3e6e537c7ba685a338a9207"), looks := false }, kinds := [], alts := [], laidByText := true, laidKinds := [.data, .data, .data], laidTests := true, laidLooks := .later }
def EchoTaggedUptoCardSaid : Prop := Claim7.holds Tryd.pinned (.plain (OpenSpec.upto echoTaggedSpec)) echoTaggedUptoCard

/-- THE SECOND FORM's CARD OF 'skywavelaw02.EchoOctants'. -/
def echoOctantsUptoCard : Claim7 := { stood := { row := echoOctantsUptoRow, standIns := [], harness := (true, "c35972c2138824ba830ca3c1035da5ff4f68e926b3e6e537c7ba685a338a9207"), looks := false }, kinds := [], alts := [], laidByText := true, laidKinds := [.data, .data, .data], laidTests := true, laidLooks := .later }
def EchoOctantsUptoCardSaid : Prop := Claim7.holds Tryd.pinned (.plain (OpenSpec.upto echoOctantsSpec)) echoOctantsUptoCard

/-- THE SECOND FORM's CARD OF 'skywavelaw02.EchoLines'. -/
def echoLinesUptoCard : Claim7 := { stood := { row := echoLinesUptoRow, standIns := [], harness := (true, "c35972c2138824ba830ca3c1035da5ff4f68e926b3e6e537c7ba685a338a9207"), looks := false }, kinds := [], alts := [], laidByText := true, laidKinds := [.data, .data, .data], laidTests := true, laidLooks := .later }
def EchoLinesUptoCardSaid : Prop := Claim7.holds Tryd.pinned (.plain (OpenSpec.upto echoLinesSpec)) echoLinesUptoCard

/-- THE SECOND FORM's CARD OF 'skywavelaw02.EchoSums'. -/
def echoSumsUptoCard : Claim7 := { stood := { row := echoSumsUptoRow, standIns := [], harness := (true, "c35972c2138824ba830ca3c1035da5ff4f68e926b3e6e537c7ba685a338a9207"), looks := false }, kinds := [], alts := [], laidByText := true, laidKinds := [.data, .data, .data], laidTests := true, laidLooks := .later }
def EchoSumsUptoCardSaid : Prop := Claim7.holds Tryd.pinned (.plain (OpenSpec.upto echoSumsSpec)) echoSumsUptoCard

/-- THE SECOND FORM's CARD OF 'skywavelaw02.EchoSplits'. -/
def echoSplitsUptoCard : Claim7 := { stood := { row := echoSplitsUptoRow, standIns := [], harness := (true, "c35972c2138824ba830ca3c1035da5ff4f68e926b3e6e537c7ba685a338a9207"), looks := false }, kinds := [], alts := [], laidByText := true, laidKinds := [.data, .data, .data], laidTests := true, laidLooks := .later }
def EchoSplitsUptoCardSaid : Prop := Claim7.holds Tryd.pinned (.plain (OpenSpec.upto echoSplitsSpec)) echoSplitsUptoCard

/-- THE SECOND FORM's CARD OF 'skywavelaw02.EchoSeparated'. -/
def echoSeparatedUptoCard : Claim7 := { stood := { row := echoSeparatedUptoRow, standIns := [], harness := (true, "c35972c2138824ba830ca3c1035da5ff4f68e926b3e6e537c7ba685a338a9207"), looks := false }, kinds := [], alts := [], laidByText := true, laidKinds := [.data, .data, .data], laidTests := true, laidLooks := .later }
def EchoSeparatedUptoCardSaid : Prop := Claim7.holds Tryd.pinned (.plain (OpenSpec.upto echoSeparatedSpec)) echoSeparatedUptoCard

/-- THE SECOND FORM's CARD OF 'skywavelaw02.EchoPhases'. -/
def echoPhasesUptoCard : Claim7 := { stood := { row := echoPhasesUptoRow, standIns := [], harness := (true, "c35972c2138824ba830ca3c1035da5ff4f68e926b3e6e537c7ba685a338a9207"), looks := false }, kinds := [], alts := [], laidByText := true, laidKinds := [.data, .data, .data], laidTests := true, laidLooks := .later }
def EchoPhasesUptoCardSaid : Prop := Claim7.holds Tryd.pinned (.plain (OpenSpec.upto echoPhasesSpec)) echoPhasesUptoCard

/-- THE SECOND FORM's CARD OF 'skywavelaw02.EchoAmong'. -/
def echoAmongUptoCard : Claim7 := { stood := { row := echoAmongUptoRow, standIns := [], harness := (true, "c35972c2138824ba830ca3c1035da5ff4f68e926b3e6e537c7ba685a338a9207"), looks := false }, kinds := [], alts := [], laidByText := true, laidKinds := [.data, .data, .data], laidTests := true, laidLooks := .later }
def EchoAmongUptoCardSaid : Prop := Claim7.holds Tryd.pinned (.plain (OpenSpec.upto echoAmongSpec)) echoAmongUptoCard

/-- THE SECOND FORM's CARD OF 'skywavelaw02.EchoDirections'. -/
def echoDirectionsUptoCard : Claim7 := { stood := { row := echoDirectionsUptoRow, standIns := [], harness := (true, "c35972c2138824ba830ca3c1035da5ff4f68e926b3e6e537c7ba685a338a9207"), looks := false }, kinds := [], alts := [], laidByText := true, laidKinds := [.data, .data, .data], laidTests := true, laidLooks := .later }
def EchoDirectionsUptoCardSaid : Prop := Claim7.holds Tryd.pinned (.plain (OpenSpec.upto echoDirectionsSpec)) echoDirectionsUptoCard
end Rows
end Go.Proofs.YtppghnbabnhnbaaDoor
