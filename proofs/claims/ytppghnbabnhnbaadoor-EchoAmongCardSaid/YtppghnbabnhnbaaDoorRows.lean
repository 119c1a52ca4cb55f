/-
  NARROWER THAN 'FOR EVERY INPUT', by the rows' own cells (each row's printed sentence says how): TopEchoInInterval: laid · EchoSpacings: laid · EchoRuled: laid · EchoTurns: laid · EchoTagged: laid · EchoOctants: laid · EchoLines: laid · EchoSums: laid · EchoSplits: laid · EchoSeparated: laid · EchoPhases: laid · EchoAmong: laid · EchoDirections: laid.
  DERIVED. THE GIVEN ROWS OF THIS SEAT. 13 by the template 'for every input the law returns true; each argument reads behind the call as it read before'; 0 by the template 'total and deterministic' (their statements: YtppghnbabnhnbaaDoorTotals.lean).
  GIVEN WITH THE SEED: the statements are not yours to turn. If you find one false, say at which input.
  Laid BY PROGRAM, IN A SANDBOX (cutbox-rows.mjs): the forced cells as the released guide's own fill.sh prints them over the translation bab1721c7fb85c3e… (all of the seat's roots in one cut). By AI agents, Wed Nov 11 2026. No macro, syntax, notation, axiom, sorry.
-/
import Derived.Test.YtppghnbabnhnbaaDoorChecked
import GoSem.Claim
import GoSem.ClaimJoined
import GoSem.ClaimMapViews
import Derived.JoinedTies
import Derived.KernelRfl
namespace Go.Proofs.YtppghnbabnhnbaaDoor
/- THE CELL 'sum', in the pinned program and in every row, IS THE sha256 OF THE DUMP (.gsa) THAT YtppghnbabnhnbaaDoorProg.lean LOADS. Nothing in Lean hashes anything: it is a label: what it is worth is what the hold of that sum in a sandbox is worth. -/
noncomputable def Tryd.pinned : Pinned := { name := "ytppghnbabnhnbaadoor", sum := "bab1721c7fb85c3ed26509e8fc770e1f4e47b89de00f40396b64c6a5a212c0a9", checked := Tryd.checked }
namespace Rows
def none {H : Type} : Left H := { results := [], args := [] }

/- WHAT THE LISTED PACKAGE-LEVEL VARIABLES READ AS WHEN THE CALL BEGINS. Each datum BY PROGRAM (the guide's laid-datum.mjs) off the statement by which the dump's own 'gosem.cut.vars' lays the variable. In a bare row this is a premise. The card (YtppghnbabnhnbaaDoorCards.lean) ties it to the program's text. -/
def laid_math_bits_deBruijn32tab {H : Type} : DataW H := .agg [.lit (.int .u8 0), .lit (.int .u8 1), .lit (.int .u8 28), .lit (.int .u8 2), .lit (.int .u8 29), .lit (.int .u8 14), .lit (.int .u8 24), .lit (.int .u8 3), .lit (.int .u8 30), .lit (.int .u8 22), .lit (.int .u8 20), .lit (.int .u8 15), .lit (.int .u8 25), .lit (.int .u8 17), .lit (.int .u8 4), .lit (.int .u8 8), .lit (.int .u8 31), .lit (.int .u8 27), .lit (.int .u8 13), .lit (.int .u8 23), .lit (.int .u8 21), .lit (.int .u8 19), .lit (.int .u8 16), .lit (.int .u8 7), .lit (.int .u8 26), .lit (.int .u8 12), .lit (.int .u8 18), .lit (.int .u8 6), .lit (.int .u8 11), .lit (.int .u8 5), .lit (.int .u8 10), .lit (.int .u8 9)]
def laid_math_bits_deBruijn64tab {H : Type} : DataW H := .agg [.lit (.int .u8 0), .lit (.int .u8 1), .lit (.int .u8 56), .lit (.int .u8 2), .lit (.int .u8 57), .lit (.int .u8 49), .lit (.int .u8 28), .lit (.int .u8 3), .lit (.int .u8 61), .lit (.int .u8 58), .lit (.int .u8 42), .lit (.int .u8 50), .lit (.int .u8 38), .lit (.int .u8 29), .lit (.int .u8 17), .lit (.int .u8 4), .lit (.int .u8 62), .lit (.int .u8 47), .lit (.int .u8 59), .lit (.int .u8 36), .lit (.int .u8 45), .lit (.int .u8 43), .lit (.int .u8 51), .lit (.int .u8 22), .lit (.int .u8 53), .lit (.int .u8 39), .lit (.int .u8 33), .lit (.int .u8 30), .lit (.int .u8 24), .lit (.int .u8 18), .lit (.int .u8 12), .lit (.int .u8 5), .lit (.int .u8 63), .lit (.int .u8 55), .lit (.int .u8 48), .lit (.int .u8 27), .lit (.int .u8 60), .lit (.int .u8 41), .lit (.int .u8 37), .lit (.int .u8 16), .lit (.int .u8 46), .lit (.int .u8 35), .lit (.int .u8 44), .lit (.int .u8 21), .lit (.int .u8 52), .lit (.int .u8 32), .lit (.int .u8 23), .lit (.int .u8 11), .lit (.int .u8 54), .lit (.int .u8 26), .lit (.int .u8 40), .lit (.int .u8 15), .lit (.int .u8 34), .lit (.int .u8 20), .lit (.int .u8 31), .lit (.int .u8 10), .lit (.int .u8 25), .lit (.int .u8 14), .lit (.int .u8 19), .lit (.int .u8 9), .lit (.int .u8 13), .lit (.int .u8 8), .lit (.int .u8 7), .lit (.int .u8 6)]
def laid_internal_strconv_uint64pow10 {H : Type} : DataW H := .agg [.lit (.int .u64 1), .lit (.int .u64 10), .lit (.int .u64 100), .lit (.int .u64 1000), .lit (.int .u64 10000), .lit (.int .u64 100000), .lit (.int .u64 1000000), .lit (.int .u64 10000000), .lit (.int .u64 100000000), .lit (.int .u64 1000000000), .lit (.int .u64 10000000000), .lit (.int .u64 100000000000), .lit (.int .u64 1000000000000), .lit (.int .u64 10000000000000), .lit (.int .u64 100000000000000), .lit (.int .u64 1000000000000000), .lit (.int .u64 10000000000000000), .lit (.int .u64 100000000000000000), .lit (.int .u64 1000000000000000000), .lit (.int .u64 10000000000000000000)]

/-- 'skywavetop.TopEchoInInterval': WHATEVER THE INPUT: true; the input reads as it did. -/
def topEchoInIntervalSpec : ChangeSpec := { name := "topEchoInInterval", fn := fun _ => fun
  | [d1, d2, d3] => { results := [.lit (.bool true)], args := [d1, d2, d3] }
  | _ => none }
def topEchoInIntervalRow : OpenClaim := { program := "ytppghnbabnhnbaadoor", sum := "bab1721c7fb85c3ed26509e8fc770e1f4e47b89de00f40396b64c6a5a212c0a9", func := "skywave/skywavetop.TopEchoInInterval", spec := "topEchoInInterval", inPlace := ["internal/abi.NoEscape", "internal/bytealg.MakeNoZero"], unfollowed := true, recurses := true, named := ["internal/strconv.uint64pow10", "math/bits.deBruijn32tab", "math/bits.deBruijn64tab"], apart := false, laid := [("math/bits.deBruijn32tab", laid_math_bits_deBruijn32tab), ("math/bits.deBruijn64tab", laid_math_bits_deBruijn64tab), ("internal/strconv.uint64pow10", laid_internal_strconv_uint64pow10)] }
def TopEchoInIntervalSaid : Prop := topEchoInIntervalRow.holds Tryd.pinned (OpenSpec.ofChange topEchoInIntervalSpec)

/-- ITS FALSE NEIGHBOUR: 'it returns false'. Refute it at one input. -/
def topEchoInIntervalWrong : ChangeSpec := { name := "topEchoInInterval", fn := fun _ => fun
  | [d1, d2, d3] => { results := [.lit (.bool false)], args := [d1, d2, d3] }
  | _ => none }
def TopEchoInIntervalWrongFalsely : Prop := topEchoInIntervalRow.holds Tryd.pinned (OpenSpec.ofChange topEchoInIntervalWrong)

/-- 'skywavelaw02.EchoSpacings': WHATEVER THE INPUT: true; the input reads as it did. -/
def echoSpacingsSpec : ChangeSpec := { name := "echoSpacings", fn := fun _ => fun
  | [d1, d2, d3] => { results := [.lit (.bool true)], args := [d1, d2, d3] }
  | _ => none }
def echoSpacingsRow : OpenClaim := { program := "ytppghnbabnhnbaadoor", sum := "bab1721c7fb85c3ed26509e8fc770e1f4e47b89de00f40396b64c6a5a212c0a9", func := "skywave/skywavelaw02.EchoSpacings", spec := "echoSpacings", inPlace := ["internal/abi.NoEscape", "internal/bytealg.MakeNoZero"], unfollowed := true, recurses := true, named := ["internal/strconv.uint64pow10", "math/bits.deBruijn32tab", "math/bits.deBruijn64tab"], apart := false, laid := [("math/bits.deBruijn32tab", laid_math_bits_deBruijn32tab), ("math/bits.deBruijn64tab", laid_math_bits_deBruijn64tab), ("internal/strconv.uint64pow10", laid_internal_strconv_uint64pow10)] }
def EchoSpacingsSaid : Prop := echoSpacingsRow.holds Tryd.pinned (OpenSpec.ofChange echoSpacingsSpec)

/-- ITS FALSE NEIGHBOUR: 'it returns false'. Refute it at one input. -/
def echoSpacingsWrong : ChangeSpec := { name := "echoSpacings", fn := fun _ => fun
  | [d1, d2, d3] => { results := [.lit (.bool false)], args := [d1, d2, d3] }
  | _ => none }
def EchoSpacingsWrongFalsely : Prop := echoSpacingsRow.holds Tryd.pinned (OpenSpec.ofChange echoSpacingsWrong)

/-- 'skywavelaw02.EchoRuled': WHATEVER THE INPUT: true; the input reads as it did. -/
def echoRuledSpec : ChangeSpec := { name := "echoRuled", fn := fun _ => fun
  | [d1, d2, d3] => { results := [.lit (.bool true)], args := [d1, d2, d3] }
  | _ => none }
def echoRuledRow : OpenClaim := { program := "ytppghnbabnhnbaadoor", sum := "bab1721c7fb85c3ed26509e8fc770e1f4e47b89de00f40396b64c6a5a212c0a9", func := "skywave/skywavelaw02.EchoRuled", spec := "echoRuled", inPlace := ["internal/abi.NoEscape", "internal/bytealg.MakeNoZero"], unfollowed := true, recurses := true, named := ["internal/strconv.uint64pow10", "math/bits.deBruijn32tab", "math/bits.deBruijn64tab"], apart := false, laid := [("math/bits.deBruijn32tab", laid_math_bits_deBruijn32tab), ("math/bits.deBruijn64tab", laid_math_bits_deBruijn64tab), ("internal/strconv.uint64pow10", laid_internal_strconv_uint64pow10)] }
def EchoRuledSaid : Prop := echoRuledRow.holds Tryd.pinned (OpenSpec.ofChange echoRuledSpec)

/-- ITS FALSE NEIGHBOUR: 'it returns false'. Refute it at one input. -/
def echoRuledWrong : ChangeSpec := { name := "echoRuled", fn := fun _ => fun
  | [d1, d2, d3] => { results := [.lit (.bool false)], args := [d1, d2, d3] }
  | _ => none }
def EchoRuledWrongFalsely : Prop := echoRuledRow.holds Tryd.pinned (OpenSpec.ofChange echoRuledWrong)

/-- 'skywavelaw02.EchoTurns': WHATEVER THE INPUT: true; the input reads as it did. -/
def echoTurnsSpec : ChangeSpec := { name := "echoTurns", fn := fun _ => fun
  | [d1, d2, d3] => { results := [.lit (.bool true)], args := [d1, d2, d3] }
  | _ => none }
def echoTurnsRow : OpenClaim := { program := "ytppghnbabnhnbaadoor", sum := "bab1721c7fb85c3ed26509e8fc770e1f4e47b89de00f40396b64c6a5a212c0a9", func := "skywave/skywavelaw02.EchoTurns", spec := "echoTurns", inPlace := ["internal/abi.NoEscape", "internal/bytealg.MakeNoZero"], unfollowed := true, recurses := true, named := ["internal/strconv.uint64pow10", "math/bits.deBruijn32tab", "math/bits.deBruijn64tab"], apart := false, laid := [("math/bits.deBruijn32tab", laid_math_bits_deBruijn32tab), ("math/bits.deBruijn64tab", laid_math_bits_deBruijn64tab), ("internal/strconv.uint64pow10", laid_internal_strconv_uint64pow10)] }
def EchoTurnsSaid : Prop := echoTurnsRow.holds Tryd.pinned (OpenSpec.ofChange echoTurnsSpec)

/-- ITS FALSE NEIGHBOUR: 'it returns false'. Refute it at one input. -/
def echoTurnsWrong : ChangeSpec := { name := "echoTurns", fn := fun _ => fun
  | [d1, d2, d3] => { results := [.lit (.bool false)], args := [d1, d2, d3] }
  | _ => none }
def EchoTurnsWrongFalsely : Prop := echoTurnsRow.holds Tryd.pinned (OpenSpec.ofChange echoTurnsWrong)

/-- 'skywavelaw02.EchoTagged': WHATEVER THE INPUT: true; the input reads as it did. -/
def echoTaggedSpec : ChangeSpec := { name := "echoTagged", fn := fun _ => fun
  | [d1, d2, d3] => { results := [.lit (.bool true)], args := [d1, d2, d3] }
  | _ => none }
def echoTaggedRow : OpenClaim := { program := "ytppghnbabnhnbaadoor", sum := "bab1721c7fb85c3ed26509e8fc770e1f4e47b89de00f40396b64c6a5a212c0a9", func := "skywave/skywavelaw02.EchoTagged", spec := "echoTagged", inPlace := ["internal/abi.NoEscape", "internal/bytealg.MakeNoZero"], unfollowed := true, recurses := true, named := ["internal/strconv.uint64pow10", "math/bits.deBruijn32tab", "math/bits.deBruijn64tab"], apart := false, laid := [("math/bits.deBruijn32tab", laid_math_bits_deBruijn32tab), ("math/bits.deBruijn64tab", laid_math_bits_deBruijn64tab), ("internal/strconv.uint64pow10", laid_internal_strconv_uint64pow10)] }
def EchoTaggedSaid : Prop := echoTaggedRow.holds Tryd.pinned (OpenSpec.ofChange echoTaggedSpec)

/-- ITS FALSE NEIGHBOUR: 'it returns false'. Refute it at one input. -/
def echoTaggedWrong : ChangeSpec := { name := "echoTagged", fn := fun _ => fun
  | [d1, d2, d3] => { results := [.lit (.bool false)], args := [d1, d2, d3] }
  | _ => none }
def EchoTaggedWrongFalsely : Prop := echoTaggedRow.holds Tryd.pinned (OpenSpec.ofChange echoTaggedWrong)

/-- 'skywavelaw02.EchoOctants': WHATEVER THE INPUT: true; the input reads as it did. -/
def echoOctantsSpec : ChangeSpec := { name := "echoOctants", fn := fun _ => fun
  | [d1, d2, d3] => { results := [.lit (.bool true)], args := [d1, d2, d3] }
  | _ => none }
def echoOctantsRow : OpenClaim := { program := "ytppghnbabnhnbaadoor", sum := "bab1721c7fb85c3ed26509e8fc770e1f4e47b89de00f40396b64c6a5a212c0a9", func := "skywave/skywavelaw02.EchoOctants", spec := "echoOctants", inPlace := ["internal/abi.NoEscape", "internal/bytealg.MakeNoZero"], unfollowed := true, recurses := true, named := ["internal/strconv.uint64pow10", "math/bits.deBruijn32tab", "math/bits.deBruijn64tab"], apart := false, laid := [("math/bits.deBruijn32tab", laid_math_bits_deBruijn32tab), ("math/bits.deBruijn64tab", laid_math_bits_deBruijn64tab), ("internal/strconv.uint64pow10", laid_internal_strconv_uint64pow10)] }
def EchoOctantsSaid : Prop := echoOctantsRow.holds Tryd.pinned (OpenSpec.ofChange echoOctantsSpec)

/-- ITS FALSE NEIGHBOUR: 'it returns false'. Refute it at one input. -/
def echoOctantsWrong : ChangeSpec := { name := "echoOctants", fn := fun _ => fun
  | [d1, d2, d3] => { results := [.lit (.bool false)], args := [d1, d2, d3] }
  | _ => none }
def EchoOctantsWrongFalsely : Prop := echoOctantsRow.holds Tryd.pinned (OpenSpec.ofChange echoOctantsWrong)

/-- 'skywavelaw02.EchoLines': WHATEVER THE INPUT: true; the input reads as it did. -/
def echoLinesSpec : ChangeSpec := { name := "echoLines", fn := fun _ => fun
  | [d1, d2] => { results := [.lit (.bool true)], args := [d1, d2] }
  | _ => none }
def echoLinesRow : OpenClaim := { program := "ytppghnbabnhnbaadoor", sum := "bab1721c7fb85c3ed26509e8fc770e1f4e47b89de00f40396b64c6a5a212c0a9", func := "skywave/skywavelaw02.EchoLines", spec := "echoLines", inPlace := ["internal/abi.NoEscape", "internal/bytealg.MakeNoZero"], unfollowed := true, recurses := true, named := ["internal/strconv.uint64pow10", "math/bits.deBruijn32tab", "math/bits.deBruijn64tab"], apart := false, laid := [("math/bits.deBruijn32tab", laid_math_bits_deBruijn32tab), ("math/bits.deBruijn64tab", laid_math_bits_deBruijn64tab), ("internal/strconv.uint64pow10", laid_internal_strconv_uint64pow10)] }
def EchoLinesSaid : Prop := echoLinesRow.holds Tryd.pinned (OpenSpec.ofChange echoLinesSpec)

/-- ITS FALSE NEIGHBOUR: 'it returns false'. Refute it at one input. -/
def echoLinesWrong : ChangeSpec := { name := "echoLines", fn := fun _ => fun
  | [d1, d2] => { results := [.lit (.bool false)], args := [d1, d2] }
  | _ => none }
def EchoLinesWrongFalsely : Prop := echoLinesRow.holds Tryd.pinned (OpenSpec.ofChange echoLinesWrong)

/-- 'skywavelaw02.EchoSums': WHATEVER THE INPUT: true; the input reads as it did. -/
def echoSumsSpec : ChangeSpec := { name := "echoSums", fn := fun _ => fun
  | [d] => { results := [.lit (.bool true)], args := [d] }
  | _ => none }
def echoSumsRow : OpenClaim := { program := "ytppghnbabnhnbaadoor", sum := "bab1721c7fb85c3ed26509e8fc770e1f4e47b89de00f40396b64c6a5a212c0a9", func := "skywave/skywavelaw02.EchoSums", spec := "echoSums", inPlace := ["internal/abi.NoEscape", "internal/bytealg.MakeNoZero"], unfollowed := true, recurses := true, named := ["internal/strconv.uint64pow10", "math/bits.deBruijn32tab", "math/bits.deBruijn64tab"], apart := false, laid := [("math/bits.deBruijn32tab", laid_math_bits_deBruijn32tab), ("math/bits.deBruijn64tab", laid_math_bits_deBruijn64tab), ("internal/strconv.uint64pow10", laid_internal_strconv_uint64pow10)] }
def EchoSumsSaid : Prop := echoSumsRow.holds Tryd.pinned (OpenSpec.ofChange echoSumsSpec)

/-- ITS FALSE NEIGHBOUR: 'it returns false'. Refute it at one input. -/
def echoSumsWrong : ChangeSpec := { name := "echoSums", fn := fun _ => fun
  | [d] => { results := [.lit (.bool false)], args := [d] }
  | _ => none }
def EchoSumsWrongFalsely : Prop := echoSumsRow.holds Tryd.pinned (OpenSpec.ofChange echoSumsWrong)

/-- 'skywavelaw02.EchoSplits': WHATEVER THE INPUT: true; the input reads as it did. -/
def echoSplitsSpec : ChangeSpec := { name := "echoSplits", fn := fun _ => fun
  | [d1, d2, d3] => { results := [.lit (.bool true)], args := [d1, d2, d3] }
  | _ => none }
def echoSplitsRow : OpenClaim := { program := "ytppghnbabnhnbaadoor", sum := "bab1721c7fb85c3ed26509e8fc770e1f4e47b89de00f40396b64c6a5a212c0a9", func := "skywave/skywavelaw02.EchoSplits", spec := "echoSplits", inPlace := ["internal/abi.NoEscape", "internal/bytealg.MakeNoZero"], unfollowed := true, recurses := true, named := ["internal/strconv.uint64pow10", "math/bits.deBruijn32tab", "math/bits.deBruijn64tab"], apart := false, laid := [("math/bits.deBruijn32tab", laid_math_bits_deBruijn32tab), ("math/bits.deBruijn64tab", laid_math_bits_deBruijn64tab), ("internal/strconv.uint64pow10", laid_internal_strconv_uint64pow10)] }
def EchoSplitsSaid : Prop := echoSplitsRow.holds Tryd.pinned (OpenSpec.ofChange echoSplitsSpec)

/-- ITS FALSE NEIGHBOUR: 'it returns false'. Refute it at one input. -/
def echoSplitsWrong : ChangeSpec := { name := "echoSplits", fn := fun _ => fun
  | [d1, d2, d3] => { results := [.lit (.bool false)], args := [d1, d2, d3] }
  | _ => none }
def EchoSplitsWrongFalsely : Prop := echoSplitsRow.holds Tryd.pinned (OpenSpec.ofChange echoSplitsWrong)

/-- 'skywavelaw02.EchoSeparated': WHATEVER THE INPUT: true; the input reads as it did. -/
def echoSeparatedSpec : ChangeSpec := { name := "echoSeparated", fn := fun _ => fun
  | [d1, d2, d3] => { results := [.lit (.bool true)], args := [d1, d2, d3] }
  | _ => none }
def echoSeparatedRow : OpenClaim := { program := "ytppghnbabnhnbaadoor", sum := "bab1721c7fb85c3ed26509e8fc770e1f4e47b89de00f40396b64c6a5a212c0a9", func := "skywave/skywavelaw02.EchoSeparated", spec := "echoSeparated", inPlace := ["internal/abi.NoEscape", "internal/bytealg.MakeNoZero"], unfollowed := true, recurses := true, named := ["internal/strconv.uint64pow10", "math/bits.deBruijn32tab", "math/bits.deBruijn64tab"], apart := false, laid := [("math/bits.deBruijn32tab", laid_math_bits_deBruijn32tab), ("math/bits.deBruijn64tab", laid_math_bits_deBruijn64tab), ("internal/strconv.uint64pow10", laid_internal_strconv_uint64pow10)] }
def EchoSeparatedSaid : Prop := echoSeparatedRow.holds Tryd.pinned (OpenSpec.ofChange echoSeparatedSpec)

/-- ITS FALSE NEIGHBOUR: 'it returns false'. Refute it at one input. -/
def echoSeparatedWrong : ChangeSpec := { name := "echoSeparated", fn := fun _ => fun
  | [d1, d2, d3] => { results := [.lit (.bool false)], args := [d1, d2, d3] }
  | _ => none }
def EchoSeparatedWrongFalsely : Prop := echoSeparatedRow.holds Tryd.pinned (OpenSpec.ofChange echoSeparatedWrong)

/-- 'skywavelaw02.EchoPhases': WHATEVER THE INPUT: true; the input reads as it did. -/
def echoPhasesSpec : ChangeSpec := { name := "echoPhases", fn := fun _ => fun
  | [d1, d2, d3] => { results := [.lit (.bool true)], args := [d1, d2, d3] }
  | _ => none }
def echoPhasesRow : OpenClaim := { program := "ytppghnbabnhnbaadoor", sum := "bab1721c7fb85c3ed26509e8fc770e1f4e47b89de00f40396b64c6a5a212c0a9", func := "skywave/skywavelaw02.EchoPhases", spec := "echoPhases", inPlace := ["internal/abi.NoEscape", "internal/bytealg.MakeNoZero"], unfollowed := true, recurses := true, named := ["internal/strconv.uint64pow10", "math/bits.deBruijn32tab", "math/bits.deBruijn64tab"], apart := false, laid := [("math/bits.deBruijn32tab", laid_math_bits_deBruijn32tab), ("math/bits.deBruijn64tab", laid_math_bits_deBruijn64tab), ("internal/strconv.uint64pow10", laid_internal_strconv_uint64pow10)] }
def EchoPhasesSaid : Prop := echoPhasesRow.holds Tryd.pinned (OpenSpec.ofChange echoPhasesSpec)

/-- ITS FALSE NEIGHBOUR: 'it returns false'. Refute it at one input. -/
def echoPhasesWrong : ChangeSpec := { name := "echoPhases", fn := fun _ => fun
  | [d1, d2, d3] => { results := [.lit (.bool false)], args := [d1, d2, d3] }
  | _ => none }
def EchoPhasesWrongFalsely : Prop := echoPhasesRow.holds Tryd.pinned (OpenSpec.ofChange echoPhasesWrong)

/-- 'skywavelaw02.EchoAmong': WHATEVER THE INPUT: true; the input reads as it did. -/
def echoAmongSpec : ChangeSpec := { name := "echoAmong", fn := fun _ => fun
  | [d1, d2, d3] => { results := [.lit (.bool true)], args := [d1, d2, d3] }
  | _ => none }
def echoAmongRow : OpenClaim := { program := "ytppghnbabnhnbaadoor", sum := "bab1721c7fb85c3ed26509e8fc770e1f4e47b89de00f40396b64c6a5a212c0a9", func := "skywave/skywavelaw02.EchoAmong", spec := "echoAmong", inPlace := ["internal/abi.NoEscape", "internal/bytealg.MakeNoZero"], unfollowed := true, recurses := true, named := ["internal/strconv.uint64pow10", "math/bits.deBruijn32tab", "math/bits.deBruijn64tab"], apart := false, laid := [("math/bits.deBruijn32tab", laid_math_bits_deBruijn32tab), ("math/bits.deBruijn64tab", laid_math_bits_deBruijn64tab), ("internal/strconv.uint64pow10", laid_internal_strconv_uint64pow10)] }
def EchoAmongSaid : Prop := echoAmongRow.holds Tryd.pinned (OpenSpec.ofChange echoAmongSpec)

/-- ITS FALSE NEIGHBOUR: 'it returns false'. Refute it at one input. -/
def echoAmongWrong : ChangeSpec := { name := "echoAmong", fn := fun _ => fun
  | [d1, d2, d3] => { results := [.lit (.bool false)], args := [d1, d2, d3] }
  | _ => none }
def EchoAmongWrongFalsely : Prop := echoAmongRow.holds Tryd.pinned (OpenSpec.ofChange echoAmongWrong)

/-- 'skywavelaw02.EchoDirections': WHATEVER THE INPUT: true; the input reads as it did. -/
def echoDirectionsSpec : ChangeSpec := { name := "echoDirections", fn := fun _ => fun
  | [d] => { results := [.lit (.bool true)], args := [d] }
  | _ => none }
def echoDirectionsRow : OpenClaim := { program := "ytppghnbabnhnbaadoor", sum := "bab1721c7fb85c3ed26509e8fc770e1f4e47b89de00f40396b64c6a5a212c0a9", func := "skywave/skywavelaw02.EchoDirections", spec := "echoDirections", inPlace := ["internal/abi.NoEscape", "internal/bytealg.MakeNoZero"], unfollowed := true, recurses := true, named := ["internal/strconv.uint64pow10", "math/bits.deBruijn32tab", "math/bits.deBruijn64tab"], apart := false, laid := [("math/bits.deBruijn32tab", laid_math_bits_deBruijn32tab), ("math/bits.deBruijn64tab", laid_math_bits_deBruijn64tab), ("internal/strconv.uint64pow10", laid_internal_strconv_uint64pow10)] }
def EchoDirectionsSaid : Prop := echoDirectionsRow.holds Tryd.pinned (OpenSpec.ofChange echoDirectionsSpec)

/-- ITS FALSE NEIGHBOUR: 'it returns false'. Refute it at one input. -/
def echoDirectionsWrong : ChangeSpec := { name := "echoDirections", fn := fun _ => fun
  | [d] => { results := [.lit (.bool false)], args := [d] }
  | _ => none }
def EchoDirectionsWrongFalsely : Prop := echoDirectionsRow.holds Tryd.pinned (OpenSpec.ofChange echoDirectionsWrong)

/- THE SECOND FORM. 'bulk': how many values and letters a reading holds, each counted each time it is reached (what is shared counts as often as it is met; a slice's spare places count too). A statement '..UptoSaid' is the law's where the arguments, and the package variables that the reading takes, are together of bulk at most 1048576: NARROWER than '..Said'. Prove '..Said' where nothing that the law and all that it calls make is longer than what came in: it says more and counts as full. Else prove '..UptoSaid'. A law counts once. -/
mutual
def uptoBulk {H : Type} : DataW H → Nat
  | .lit (.string bytes) => bytes.length + 1
  | .lit _ => 1
  | .nil => 1
  | .ptr d => uptoBulk d + 1
  | .slice elems spare => uptoBulkAll elems + uptoBulkAll spare + 1
  | .agg parts => uptoBulkAll parts + 1
  | .iface _ d => uptoBulk d + 1
  | .map entries => uptoBulkEntries entries + 1
  | .held _ => 1
def uptoBulkAll {H : Type} : List (DataW H) → Nat
  | [] => 0
  | d :: r => uptoBulk d + uptoBulkAll r
def uptoBulkEntries {H : Type} : List (Lit × DataW H) → Nat
  | [] => 0
  | x :: r => uptoBulkEntry x + uptoBulkEntries r
def uptoBulkEntry {H : Type} : Lit × DataW H → Nat
  | (.string bytes, d) => bytes.length + uptoBulk d + 1
  | (_, d) => uptoBulk d + 1
 end
def uptoSmall : (H : Type) → List (DataW H) → Bool := fun _ ds => decide (uptoBulkAll ds ≤ 1048576)
def OpenSpec.upto (s : _root_.Go.ChangeSpec) : _root_.Go.OpenSpec := { _root_.Go.OpenSpec.ofChange s with cond := some uptoSmall }

/-- 'skywavetop.TopEchoInInterval', WHERE WHAT IT READS IS OF BULK AT MOST 1048576: true; the input reads as it did. -/
def topEchoInIntervalUptoRow : OpenClaim := { program := "ytppghnbabnhnbaadoor", sum := "bab1721c7fb85c3ed26509e8fc770e1f4e47b89de00f40396b64c6a5a212c0a9", func := "skywave/skywavetop.TopEchoInInterval", spec := "topEchoInInterval", inPlace := ["internal/abi.NoEscape", "internal/bytealg.MakeNoZero"], unfollowed := true, recurses := true, named := ["internal/strconv.uint64pow10", "math/bits.deBruijn32tab", "math/bits.deBruijn64tab"], apart := false, laid := [("math/bits.deBruijn32tab", laid_math_bits_deBruijn32tab), ("math/bits.deBruijn64tab", laid_math_bits_deBruijn64tab), ("internal/strconv.uint64pow10", laid_internal_strconv_uint64pow10)], narrowed := true }
def TopEchoInIntervalUptoSaid : Prop := topEchoInIntervalUptoRow.holds Tryd.pinned (OpenSpec.upto topEchoInIntervalSpec)

/-- 'skywavelaw02.EchoSpacings', WHERE WHAT IT READS IS OF BULK AT MOST 1048576: true; the input reads as it did. -/
def echoSpacingsUptoRow : OpenClaim := { program := "ytppghnbabnhnbaadoor", sum := "bab1721c7fb85c3ed26509e8fc770e1f4e47b89de00f40396b64c6a5a212c0a9", func := "skywave/skywavelaw02.EchoSpacings", spec := "echoSpacings", inPlace := ["internal/abi.NoEscape", "internal/bytealg.MakeNoZero"], unfollowed := true, recurses := true, named := ["internal/strconv.uint64pow10", "math/bits.deBruijn32tab", "math/bits.deBruijn64tab"], apart := false, laid := [("math/bits.deBruijn32tab", laid_math_bits_deBruijn32tab), ("math/bits.deBruijn64tab", laid_math_bits_deBruijn64tab), ("internal/strconv.uint64pow10", laid_internal_strconv_uint64pow10)], narrowed := true }
def EchoSpacingsUptoSaid : Prop := echoSpacingsUptoRow.holds Tryd.pinned (OpenSpec.upto echoSpacingsSpec)

/-- 'skywavelaw02.EchoRuled', WHERE WHAT IT READS IS OF BULK AT MOST 1048576: true; the input reads as it did. -/
def echoRuledUptoRow : OpenClaim := { program := "ytppghnbabnhnbaadoor", sum := "bab1721c7fb85c3ed26509e8fc770e1f4e47b89de00f40396b64c6a5a212c0a9", func := "skywave/skywavelaw02.EchoRuled", spec := "echoRuled", inPlace := ["internal/abi.NoEscape", "internal/bytealg.MakeNoZero"], unfollowed := true, recurses := true, named := ["internal/strconv.uint64pow10", "math/bits.deBruijn32tab", "math/bits.deBruijn64tab"], apart := false, laid := [("math/bits.deBruijn32tab", laid_math_bits_deBruijn32tab), ("math/bits.deBruijn64tab", laid_math_bits_deBruijn64tab), ("internal/strconv.uint64pow10", laid_internal_strconv_uint64pow10)], narrowed := true }
def EchoRuledUptoSaid : Prop := echoRuledUptoRow.holds Tryd.pinned (OpenSpec.upto echoRuledSpec)

/-- 'skywavelaw02.EchoTurns', WHERE WHAT IT READS IS OF BULK AT MOST 1048576: true; the input reads as it did. -/
def echoTurnsUptoRow : OpenClaim := { program := "ytppghnbabnhnbaadoor", sum := "bab1721c7fb85c3ed26509e8fc770e1f4e47b89de00f40396b64c6a5a212c0a9", func := "skywave/skywavelaw02.EchoTurns", spec := "echoTurns", inPlace := ["internal/abi.NoEscape", "internal/bytealg.MakeNoZero"], unfollowed := true, recurses := true, named := ["internal/strconv.uint64pow10", "math/bits.deBruijn32tab", "math/bits.deBruijn64tab"], apart := false, laid := [("math/bits.deBruijn32tab", laid_math_bits_deBruijn32tab), ("math/bits.deBruijn64tab", laid_math_bits_deBruijn64tab), ("internal/strconv.uint64pow10", laid_internal_strconv_uint64pow10)], narrowed := true }
def EchoTurnsUptoSaid : Prop := echoTurnsUptoRow.holds Tryd.pinned (OpenSpec.upto echoTurnsSpec)

/-- 'skywavelaw02.EchoTagged', WHERE WHAT IT READS IS OF BULK AT MOST 1048576: true; the input reads as it did. -/
def echoTaggedUptoRow : OpenClaim := { program := "ytppghnbabnhnbaadoor", sum := "bab1721c7fb85c3ed26509e8fc770e1f4e47b89de00f40396b64c6a5a212c0a9", func := "skywave/skywavelaw02.EchoTagged", spec := "echoTagged", inPlace := ["internal/abi.NoEscape", "internal/bytealg.MakeNoZero"], unfollowed := true, recurses := true, named := ["internal/strconv.uint64pow10", "math/bits.deBruijn32tab", "math/bits.deBruijn64tab"], apart := false, laid := [("math/bits.deBruijn32tab", laid_math_bits_deBruijn32tab), ("math/bits.deBruijn64tab", laid_math_bits_deBruijn64tab), ("internal/strconv.uint64pow10", laid_internal_strconv_uint64pow10)], narrowed := true }
def EchoTaggedUptoSaid : Prop := echoTaggedUptoRow.holds Tryd.pinned (OpenSpec.upto echoTaggedSpec)

/-- 'skywavelaw02.EchoOctants', WHERE WHAT IT READS IS OF BULK AT MOST 1048576: true; the input reads as it did. -/
def echoOctantsUptoRow : OpenClaim := { program := "ytppghnbabnhnbaadoor", sum := "bab1721c7fb85c3ed26509e8fc770e1f4e47b89de00f40396b64c6a5a212c0a9", func := "skywave/skywavelaw02.EchoOctants", spec := "echoOctants", inPlace := ["internal/abi.NoEscape", "internal/bytealg.MakeNoZero"], unfollowed := true, recurses := true, named := ["internal/strconv.uint64pow10", "math/bits.deBruijn32tab", "math/bits.deBruijn64tab"], apart := false, laid := [("math/bits.deBruijn32tab", laid_math_bits_deBruijn32tab), ("math/bits.deBruijn64tab", laid_math_bits_deBruijn64tab), ("internal/strconv.uint64pow10", laid_internal_strconv_uint64pow10)], narrowed := true }
def EchoOctantsUptoSaid : Prop := echoOctantsUptoRow.holds Tryd.pinned (OpenSpec.upto echoOctantsSpec)

/-- 'skywavelaw02.EchoLines', WHERE WHAT IT READS IS OF BULK AT MOST 1048576: true; the input reads as it did. -/
def echoLinesUptoRow : OpenClaim := { program := "ytppghnbabnhnbaadoor", sum := "bab1721c7fb85c3ed26509e8fc770e1f4e47b89de00f40396b64c6a5a212c0a9", func := "skywave/skywavelaw02.EchoLines", spec := "echoLines", inPlace := ["internal/abi.NoEscape", "internal/bytealg.MakeNoZero"], unfollowed := true, recurses := true, named := ["internal/strconv.uint64pow10", "math/bits.deBruijn32tab", "math/bits.deBruijn64tab"], apart := false, laid := [("math/bits.deBruijn32tab", laid_math_bits_deBruijn32tab), ("math/bits.deBruijn64tab", laid_math_bits_deBruijn64tab), ("internal/strconv.uint64pow10", laid_internal_strconv_uint64pow10)], narrowed := true }
def EchoLinesUptoSaid : Prop := echoLinesUptoRow.holds Tryd.pinned (OpenSpec.upto echoLinesSpec)

/-- 'skywavelaw02.EchoSums', WHERE WHAT IT READS IS OF BULK AT MOST 1048576: true; the input reads as it did. -/
def echoSumsUptoRow : OpenClaim := { program := "ytppghnbabnhnbaadoor", sum := "bab1721c7fb85c3ed26509e8fc770e1f4e47b89de00f40396b64c6a5a212c0a9", func := "skywave/skywavelaw02.EchoSums", spec := "echoSums", inPlace := ["internal/abi.NoEscape", "internal/bytealg.MakeNoZero"], unfollowed := true, recurses := true, named := ["internal/strconv.uint64pow10", "math/bits.deBruijn32tab", "math/bits.deBruijn64tab"], apart := false, laid := [("math/bits.deBruijn32tab", laid_math_bits_deBruijn32tab), ("math/bits.deBruijn64tab", laid_math_bits_deBruijn64tab), ("internal/strconv.uint64pow10", laid_internal_strconv_uint64pow10)], narrowed := true }
def EchoSumsUptoSaid : Prop := echoSumsUptoRow.holds Tryd.pinned (OpenSpec.upto echoSumsSpec)

/-- 'skywavelaw02.EchoSplits', WHERE WHAT IT READS IS OF BULK AT MOST 1048576: true; the input reads as it did. -/
def echoSplitsUptoRow : OpenClaim := { program := "ytppghnbabnhnbaadoor", sum := "bab1721c7fb85c3ed26509e8fc770e1f4e47b89de00f40396b64c6a5a212c0a9", func := "skywave/skywavelaw02.EchoSplits", spec := "echoSplits", inPlace := ["internal/abi.NoEscape", "internal/bytealg.MakeNoZero"], unfollowed := true, recurses := true, named := ["internal/strconv.uint64pow10", "math/bits.deBruijn32tab", "math/bits.deBruijn64tab"], apart := false, laid := [("math/bits.deBruijn32tab", laid_math_bits_deBruijn32tab), ("math/bits.deBruijn64tab", laid_math_bits_deBruijn64tab), ("internal/strconv.uint64pow10", laid_internal_strconv_uint64pow10)], narrowed := true }
def EchoSplitsUptoSaid : Prop := echoSplitsUptoRow.holds Tryd.pinned (OpenSpec.upto echoSplitsSpec)

/-- 'skywavelaw02.EchoSeparated', WHERE WHAT IT READS IS OF BULK AT MOST 1048576: true; the input reads as it did. -/
def echoSeparatedUptoRow : OpenClaim := { program := "ytppghnbabnhnbaadoor", sum := "bab1721c7fb85c3ed26509e8fc770e1f4e47b89de00f40396b64c6a5a212c0a9", func := "skywave/skywavelaw02.EchoSeparated", spec := "echoSeparated", inPlace := ["internal/abi.NoEscape", "internal/bytealg.MakeNoZero"], unfollowed := true, recurses := true, named := ["internal/strconv.uint64pow10", "math/bits.deBruijn32tab", "math/bits.deBruijn64tab"], apart := false, laid := [("math/bits.deBruijn32tab", laid_math_bits_deBruijn32tab), ("math/bits.deBruijn64tab", laid_math_bits_deBruijn64tab), ("internal/strconv.uint64pow10", laid_internal_strconv_uint64pow10)], narrowed := true }
def EchoSeparatedUptoSaid : Prop := echoSeparatedUptoRow.holds Tryd.pinned (OpenSpec.upto echoSeparatedSpec)

/-- 'skywavelaw02.EchoPhases', WHERE WHAT IT READS IS OF BULK AT MOST 1048576: true; the input reads as it did. -/
def echoPhasesUptoRow : OpenClaim := { program := "ytppghnbabnhnbaadoor", sum := "bab1721c7fb85c3ed26509e8fc770e1f4e47b89de00f40396b64c6a5a212c0a9", func := "skywave/skywavelaw02.EchoPhases", spec := "echoPhases", inPlace := ["internal/abi.NoEscape", "internal/bytealg.MakeNoZero"], unfollowed := true, recurses := true, named := ["internal/strconv.uint64pow10", "math/bits.deBruijn32tab", "math/bits.deBruijn64tab"], apart := false, laid := [("math/bits.deBruijn32tab", laid_math_bits_deBruijn32tab), ("math/bits.deBruijn64tab", laid_math_bits_deBruijn64tab), ("internal/strconv.uint64pow10", laid_internal_strconv_uint64pow10)], narrowed := true }
def EchoPhasesUptoSaid : Prop := echoPhasesUptoRow.holds Tryd.pinned (OpenSpec.upto echoPhasesSpec)

/-- 'skywavelaw02.EchoAmong', WHERE WHAT IT READS IS OF BULK AT MOST 1048576: true; the input reads as it did. -/
def echoAmongUptoRow : OpenClaim := { program := "ytppghnbabnhnbaadoor", sum := "bab1721c7fb85c3ed26509e8fc770e1f4e47b89de00f40396b64c6a5a212c0a9", func := "skywave/skywavelaw02.EchoAmong", spec := "echoAmong", inPlace := ["internal/abi.NoEscape", "internal/bytealg.MakeNoZero"], unfollowed := true, recurses := true, named := ["internal/strconv.uint64pow10", "math/bits.deBruijn32tab", "math/bits.deBruijn64tab"], apart := false, laid := [("math/bits.deBruijn32tab", laid_math_bits_deBruijn32tab), ("math/bits.deBruijn64tab", laid_math_bits_deBruijn64tab), ("internal/strconv.uint64pow10", laid_internal_strconv_uint64pow10)], narrowed := true }
def EchoAmongUptoSaid : Prop := echoAmongUptoRow.holds Tryd.pinned (OpenSpec.upto echoAmongSpec)

/-- 'skywavelaw02.EchoDirections', WHERE WHAT IT READS IS OF BULK AT MOST 1048576: true; the input reads as it did. -/
def echoDirectionsUptoRow : OpenClaim := { program := "ytppghnbabnhnbaadoor", sum := "bab1721c7fb85c3ed26509e8fc770e1f4e47b89de00f40396b64c6a5a212c0a9", func := "skywave/skywavelaw02.EchoDirections", spec := "echoDirections", inPlace := ["internal/abi.NoEscape", "internal/bytealg.MakeNoZero"], unfollowed := true, recurses := true, named := ["internal/strconv.uint64pow10", "math/bits.deBruijn32tab", "math/bits.deBruijn64tab"], apart := false, laid := [("math/bits.deBruijn32tab", laid_math_bits_deBruijn32tab), ("math/bits.deBruijn64tab", laid_math_bits_deBruijn64tab), ("internal/strconv.uint64pow10", laid_internal_strconv_uint64pow10)], narrowed := true }
def EchoDirectionsUptoSaid : Prop := echoDirectionsUptoRow.holds Tryd.pinned (OpenSpec.upto echoDirectionsSpec)

end Rows
end Go.Proofs.YtppghnbabnhnbaaDoor
