/-
  No cell of these rows narrows 'for every input' (looked for: loops, veiled, ifaces, maps, wideKeys, modest, calm, conditions, laid).
  DERIVED. THE GIVEN ROWS OF THIS SEAT. 12 by the template 'for every input the law returns true; each argument reads behind the call as it read before'; 0 by the template 'total and deterministic' (their statements: YtcfbnmcdncndpaaTotals.lean).
  GIVEN WITH THE SEED: the statements are not yours to turn. If you find one false, say at which input.
  Laid BY PROGRAM, IN A SANDBOX (cutbox-rows.mjs): the forced cells as the released guide's own fill.sh prints them over the translation cbbc63dfe349c093… (all of the seat's roots in one cut). By AI agents, Wed Nov 11 2026. No macro, syntax, notation, axiom, sorry.
-/
import Derived.Test.YtcfbnmcdncndpaaChecked
import GoSem.Claim
import GoSem.ClaimJoined
import GoSem.ClaimMapViews
import Derived.JoinedTies
import Derived.KernelRfl
namespace Go.Proofs.Ytcfbnmcdncndpaa
/- THE CELL 'sum', in the pinned program and in every row, IS THE sha256 OF THE DUMP (.gsa) THAT YtcfbnmcdncndpaaProg.lean LOADS. Nothing in Lean hashes anything: it is a label: what it is worth is what the hold of that sum in a sandbox is worth. -/
noncomputable def Try.pinned : Pinned := { name := "ytcfbnmcdncndpaa", sum := "cbbc63dfe349c09319ca3c3a83842190d2528517e9f6878de27cfa93bf9fdedf", checked := Try.checked }
namespace Rows
def none {H : Type} : Left H := { results := [], args := [] }

/-- 'skywavelaw08.WarnRuled': WHATEVER THE INPUT: true; the input reads as it did. -/
def warnRuledSpec : ChangeSpec := { name := "warnRuled", fn := fun _ => fun
  | [d1, d2, d3] => { results := [.lit (.bool true)], args := [d1, d2, d3] }
  | _ => none }
def warnRuledRow : OpenClaim := { program := "ytcfbnmcdncndpaa", sum := "cbbc63dfe349c09319ca3c3a83842190d2528517e9f6878de27cfa93bf9fdedf", func := "skywave/skywavelaw08.WarnRuled", spec := "warnRuled", inPlace := ["slices.overlaps[skywave/api.WarnMessage]"], unfollowed := true, recurses := true, apart := false }
def WarnRuledSaid : Prop := warnRuledRow.holds Try.pinned (OpenSpec.ofChange warnRuledSpec)

/-- ITS FALSE NEIGHBOUR: 'it returns false'. Refute it at one input. -/
def warnRuledWrong : ChangeSpec := { name := "warnRuled", fn := fun _ => fun
  | [d1, d2, d3] => { results := [.lit (.bool false)], args := [d1, d2, d3] }
  | _ => none }
def WarnRuledWrongFalsely : Prop := warnRuledRow.holds Try.pinned (OpenSpec.ofChange warnRuledWrong)

/-- 'skywavelaw08.WarnRuns': WHATEVER THE INPUT: true; the input reads as it did. -/
def warnRunsSpec : ChangeSpec := { name := "warnRuns", fn := fun _ => fun
  | [d1, d2] => { results := [.lit (.bool true)], args := [d1, d2] }
  | _ => none }
def warnRunsRow : OpenClaim := { program := "ytcfbnmcdncndpaa", sum := "cbbc63dfe349c09319ca3c3a83842190d2528517e9f6878de27cfa93bf9fdedf", func := "skywave/skywavelaw08.WarnRuns", spec := "warnRuns", inPlace := ["slices.overlaps[skywave/api.WarnMessage]"], unfollowed := true, recurses := true, apart := false }
def WarnRunsSaid : Prop := warnRunsRow.holds Try.pinned (OpenSpec.ofChange warnRunsSpec)

/-- ITS FALSE NEIGHBOUR: 'it returns false'. Refute it at one input. -/
def warnRunsWrong : ChangeSpec := { name := "warnRuns", fn := fun _ => fun
  | [d1, d2] => { results := [.lit (.bool false)], args := [d1, d2] }
  | _ => none }
def WarnRunsWrongFalsely : Prop := warnRunsRow.holds Try.pinned (OpenSpec.ofChange warnRunsWrong)

/-- 'skywavelaw08.WarnKept': WHATEVER THE INPUT: true; the input reads as it did. -/
def warnKeptSpec : ChangeSpec := { name := "warnKept", fn := fun _ => fun
  | [d] => { results := [.lit (.bool true)], args := [d] }
  | _ => none }
def warnKeptRow : OpenClaim := { program := "ytcfbnmcdncndpaa", sum := "cbbc63dfe349c09319ca3c3a83842190d2528517e9f6878de27cfa93bf9fdedf", func := "skywave/skywavelaw08.WarnKept", spec := "warnKept", inPlace := ["slices.overlaps[skywave/api.WarnMessage]"], unfollowed := true, recurses := true, apart := false }
def WarnKeptSaid : Prop := warnKeptRow.holds Try.pinned (OpenSpec.ofChange warnKeptSpec)

/-- ITS FALSE NEIGHBOUR: 'it returns false'. Refute it at one input. -/
def warnKeptWrong : ChangeSpec := { name := "warnKept", fn := fun _ => fun
  | [d] => { results := [.lit (.bool false)], args := [d] }
  | _ => none }
def WarnKeptWrongFalsely : Prop := warnKeptRow.holds Try.pinned (OpenSpec.ofChange warnKeptWrong)

/-- 'skywavelaw08.WarnStates': WHATEVER THE INPUT: true; the input reads as it did. -/
def warnStatesSpec : ChangeSpec := { name := "warnStates", fn := fun _ => fun
  | [d1, d2] => { results := [.lit (.bool true)], args := [d1, d2] }
  | _ => none }
def warnStatesRow : OpenClaim := { program := "ytcfbnmcdncndpaa", sum := "cbbc63dfe349c09319ca3c3a83842190d2528517e9f6878de27cfa93bf9fdedf", func := "skywave/skywavelaw08.WarnStates", spec := "warnStates", inPlace := ["slices.overlaps[skywave/api.WarnMessage]"], unfollowed := true, recurses := true, apart := false }
def WarnStatesSaid : Prop := warnStatesRow.holds Try.pinned (OpenSpec.ofChange warnStatesSpec)

/-- ITS FALSE NEIGHBOUR: 'it returns false'. Refute it at one input. -/
def warnStatesWrong : ChangeSpec := { name := "warnStates", fn := fun _ => fun
  | [d1, d2] => { results := [.lit (.bool false)], args := [d1, d2] }
  | _ => none }
def WarnStatesWrongFalsely : Prop := warnStatesRow.holds Try.pinned (OpenSpec.ofChange warnStatesWrong)

/-- 'skywavelaw08.WarnLasts': WHATEVER THE INPUT: true; the input reads as it did. -/
def warnLastsSpec : ChangeSpec := { name := "warnLasts", fn := fun _ => fun
  | [d1, d2, d3] => { results := [.lit (.bool true)], args := [d1, d2, d3] }
  | _ => none }
def warnLastsRow : OpenClaim := { program := "ytcfbnmcdncndpaa", sum := "cbbc63dfe349c09319ca3c3a83842190d2528517e9f6878de27cfa93bf9fdedf", func := "skywave/skywavelaw08.WarnLasts", spec := "warnLasts", inPlace := ["slices.overlaps[skywave/api.WarnMessage]"], unfollowed := true, recurses := true, apart := false }
def WarnLastsSaid : Prop := warnLastsRow.holds Try.pinned (OpenSpec.ofChange warnLastsSpec)

/-- ITS FALSE NEIGHBOUR: 'it returns false'. Refute it at one input. -/
def warnLastsWrong : ChangeSpec := { name := "warnLasts", fn := fun _ => fun
  | [d1, d2, d3] => { results := [.lit (.bool false)], args := [d1, d2, d3] }
  | _ => none }
def WarnLastsWrongFalsely : Prop := warnLastsRow.holds Try.pinned (OpenSpec.ofChange warnLastsWrong)

/-- 'skywavelaw08.WarnSteps': WHATEVER THE INPUT: true; the input reads as it did. -/
def warnStepsSpec : ChangeSpec := { name := "warnSteps", fn := fun _ => fun
  | [d1, d2, d3] => { results := [.lit (.bool true)], args := [d1, d2, d3] }
  | _ => none }
def warnStepsRow : OpenClaim := { program := "ytcfbnmcdncndpaa", sum := "cbbc63dfe349c09319ca3c3a83842190d2528517e9f6878de27cfa93bf9fdedf", func := "skywave/skywavelaw08.WarnSteps", spec := "warnSteps", inPlace := ["slices.overlaps[skywave/api.WarnMessage]"], unfollowed := true, recurses := true, apart := false }
def WarnStepsSaid : Prop := warnStepsRow.holds Try.pinned (OpenSpec.ofChange warnStepsSpec)

/-- ITS FALSE NEIGHBOUR: 'it returns false'. Refute it at one input. -/
def warnStepsWrong : ChangeSpec := { name := "warnSteps", fn := fun _ => fun
  | [d1, d2, d3] => { results := [.lit (.bool false)], args := [d1, d2, d3] }
  | _ => none }
def WarnStepsWrongFalsely : Prop := warnStepsRow.holds Try.pinned (OpenSpec.ofChange warnStepsWrong)

/-- 'skywavelaw08.WarnLinks': WHATEVER THE INPUT: true; the input reads as it did. -/
def warnLinksSpec : ChangeSpec := { name := "warnLinks", fn := fun _ => fun
  | [d1, d2] => { results := [.lit (.bool true)], args := [d1, d2] }
  | _ => none }
def warnLinksRow : OpenClaim := { program := "ytcfbnmcdncndpaa", sum := "cbbc63dfe349c09319ca3c3a83842190d2528517e9f6878de27cfa93bf9fdedf", func := "skywave/skywavelaw08.WarnLinks", spec := "warnLinks", inPlace := ["slices.overlaps[skywave/api.WarnMessage]"], unfollowed := true, recurses := true, apart := false }
def WarnLinksSaid : Prop := warnLinksRow.holds Try.pinned (OpenSpec.ofChange warnLinksSpec)

/-- ITS FALSE NEIGHBOUR: 'it returns false'. Refute it at one input. -/
def warnLinksWrong : ChangeSpec := { name := "warnLinks", fn := fun _ => fun
  | [d1, d2] => { results := [.lit (.bool false)], args := [d1, d2] }
  | _ => none }
def WarnLinksWrongFalsely : Prop := warnLinksRow.holds Try.pinned (OpenSpec.ofChange warnLinksWrong)

/-- 'skywavelaw08.WarnAnyOrder': WHATEVER THE INPUT: true; the input reads as it did. -/
def warnAnyOrderSpec : ChangeSpec := { name := "warnAnyOrder", fn := fun _ => fun
  | [d1, d2] => { results := [.lit (.bool true)], args := [d1, d2] }
  | _ => none }
def warnAnyOrderRow : OpenClaim := { program := "ytcfbnmcdncndpaa", sum := "cbbc63dfe349c09319ca3c3a83842190d2528517e9f6878de27cfa93bf9fdedf", func := "skywave/skywavelaw08.WarnAnyOrder", spec := "warnAnyOrder", inPlace := ["slices.overlaps[skywave/api.WarnMessage]"], unfollowed := true, recurses := true, apart := false }
def WarnAnyOrderSaid : Prop := warnAnyOrderRow.holds Try.pinned (OpenSpec.ofChange warnAnyOrderSpec)

/-- ITS FALSE NEIGHBOUR: 'it returns false'. Refute it at one input. -/
def warnAnyOrderWrong : ChangeSpec := { name := "warnAnyOrder", fn := fun _ => fun
  | [d1, d2] => { results := [.lit (.bool false)], args := [d1, d2] }
  | _ => none }
def WarnAnyOrderWrongFalsely : Prop := warnAnyOrderRow.holds Try.pinned (OpenSpec.ofChange warnAnyOrderWrong)

/-- 'skywavelaw08.WarnFlushed': WHATEVER THE INPUT: true; the input reads as it did. -/
def warnFlushedSpec : ChangeSpec := { name := "warnFlushed", fn := fun _ => fun
  | [d] => { results := [.lit (.bool true)], args := [d] }
  | _ => none }
def warnFlushedRow : OpenClaim := { program := "ytcfbnmcdncndpaa", sum := "cbbc63dfe349c09319ca3c3a83842190d2528517e9f6878de27cfa93bf9fdedf", func := "skywave/skywavelaw08.WarnFlushed", spec := "warnFlushed", inPlace := ["slices.overlaps[skywave/api.WarnMessage]"], unfollowed := true, recurses := true, apart := false }
def WarnFlushedSaid : Prop := warnFlushedRow.holds Try.pinned (OpenSpec.ofChange warnFlushedSpec)

/-- ITS FALSE NEIGHBOUR: 'it returns false'. Refute it at one input. -/
def warnFlushedWrong : ChangeSpec := { name := "warnFlushed", fn := fun _ => fun
  | [d] => { results := [.lit (.bool false)], args := [d] }
  | _ => none }
def WarnFlushedWrongFalsely : Prop := warnFlushedRow.holds Try.pinned (OpenSpec.ofChange warnFlushedWrong)

/-- 'skywavelaw08.WarnSteady': WHATEVER THE INPUT: true; the input reads as it did. -/
def warnSteadySpec : ChangeSpec := { name := "warnSteady", fn := fun _ => fun
  | [d1, d2] => { results := [.lit (.bool true)], args := [d1, d2] }
  | _ => none }
def warnSteadyRow : OpenClaim := { program := "ytcfbnmcdncndpaa", sum := "cbbc63dfe349c09319ca3c3a83842190d2528517e9f6878de27cfa93bf9fdedf", func := "skywave/skywavelaw08.WarnSteady", spec := "warnSteady", inPlace := ["slices.overlaps[skywave/api.WarnMessage]"], unfollowed := true, recurses := true, apart := false }
def WarnSteadySaid : Prop := warnSteadyRow.holds Try.pinned (OpenSpec.ofChange warnSteadySpec)

/-- ITS FALSE NEIGHBOUR: 'it returns false'. Refute it at one input. -/
def warnSteadyWrong : ChangeSpec := { name := "warnSteady", fn := fun _ => fun
  | [d1, d2] => { results := [.lit (.bool false)], args := [d1, d2] }
  | _ => none }
def WarnSteadyWrongFalsely : Prop := warnSteadyRow.holds Try.pinned (OpenSpec.ofChange warnSteadyWrong)

/-- 'skywavelaw08.WarnStores': WHATEVER THE INPUT: true; the input reads as it did. -/
def warnStoresSpec : ChangeSpec := { name := "warnStores", fn := fun _ => fun
  | [d1, d2, d3] => { results := [.lit (.bool true)], args := [d1, d2, d3] }
  | _ => none }
def warnStoresRow : OpenClaim := { program := "ytcfbnmcdncndpaa", sum := "cbbc63dfe349c09319ca3c3a83842190d2528517e9f6878de27cfa93bf9fdedf", func := "skywave/skywavelaw08.WarnStores", spec := "warnStores", inPlace := ["slices.overlaps[skywave/api.WarnMessage]"], unfollowed := true, recurses := true, apart := false }
def WarnStoresSaid : Prop := warnStoresRow.holds Try.pinned (OpenSpec.ofChange warnStoresSpec)

/-- ITS FALSE NEIGHBOUR: 'it returns false'. Refute it at one input. -/
def warnStoresWrong : ChangeSpec := { name := "warnStores", fn := fun _ => fun
  | [d1, d2, d3] => { results := [.lit (.bool false)], args := [d1, d2, d3] }
  | _ => none }
def WarnStoresWrongFalsely : Prop := warnStoresRow.holds Try.pinned (OpenSpec.ofChange warnStoresWrong)

/-- 'skywavelaw08.WarnClients': WHATEVER THE INPUT: true; the input reads as it did. -/
def warnClientsSpec : ChangeSpec := { name := "warnClients", fn := fun _ => fun
  | [d1, d2] => { results := [.lit (.bool true)], args := [d1, d2] }
  | _ => none }
def warnClientsRow : OpenClaim := { program := "ytcfbnmcdncndpaa", sum := "cbbc63dfe349c09319ca3c3a83842190d2528517e9f6878de27cfa93bf9fdedf", func := "skywave/skywavelaw08.WarnClients", spec := "warnClients", inPlace := ["slices.overlaps[skywave/api.WarnMessage]"], unfollowed := true, recurses := true, apart := false }
def WarnClientsSaid : Prop := warnClientsRow.holds Try.pinned (OpenSpec.ofChange warnClientsSpec)

/-- ITS FALSE NEIGHBOUR: 'it returns false'. Refute it at one input. -/
def warnClientsWrong : ChangeSpec := { name := "warnClients", fn := fun _ => fun
  | [d1, d2] => { results := [.lit (.bool false)], args := [d1, d2] }
  | _ => none }
def WarnClientsWrongFalsely : Prop := warnClientsRow.holds Try.pinned (OpenSpec.ofChange warnClientsWrong)

/- THE SECOND FORM. 'bulk': how many values and letters a reading holds, each counted each time it is reached (what is shared counts as often as it is met; a slice's spare places count too). A statement '..UptoSaid' is the law's where the arguments, and the package variables that the reading takes, are together of bulk at most 1048576: NARROWER than '..Said'. Prove '..Said' where nothing that the law and all that it calls make is longer than what came in: it says more and counts as full. Else prove '..UptoSaid'. A law counts once. -/
mutual
def uptoBulk {H : Type} : DataW H → Nat
  | .lit (.string bytes) => bytes.length + 1
  | .lit _ => 1
  | .nil => 1
  | .ptr d => uptoBulk d + 1
  | .slice elems spare => uptoBulkAll elems + uptoBulkAll spare + 1
  | .agg parts => uptoBulkAll parts + 1
  | .iface _ d => uptoBulk d + 1
  | .map entries => uptoBulkEntries entries + 1
  | .held _ => 1
def uptoBulkAll {H : Type} : List (DataW H) → Nat
  | [] => 0
  | d :: r => uptoBulk d + uptoBulkAll r
def uptoBulkEntries {H : Type} : List (Lit × DataW H) → Nat
  | [] => 0
  | x :: r => uptoBulkEntry x + uptoBulkEntries r
def uptoBulkEntry {H : Type} : Lit × DataW H → Nat
  | (.string bytes, d) => bytes.length + uptoBulk d + 1
  | (_, d) => uptoBulk d + 1
 end
def uptoSmall : (H : Type) → List (DataW H) → Bool := fun _ ds => decide (uptoBulkAll ds ≤ 1048576)
def OpenSpec.upto (s : _root_.Go.ChangeSpec) : _root_.Go.OpenSpec := { _root_.Go.OpenSpec.ofChange s with cond := some uptoSmall }

/-- 'skywavelaw08.WarnRuled', WHERE WHAT IT READS IS OF BULK AT MOST 1048576: true; the input reads as it did. -/
def warnRuledUptoRow : OpenClaim := { program := "ytcfbnmcdncndpaa", sum := "cbbc63dfe349c09319ca3c3a83842190d2528517e9f6878de27cfa93bf9fdedf", func := "skywave/skywavelaw08.WarnRuled", spec := "warnRuled", inPlace := ["slices.overlaps[skywave/api.WarnMessage]"], unfollowed := true, recurses := true, apart := false, narrowed := true }
def WarnRuledUptoSaid : Prop := warnRuledUptoRow.holds Try.pinned (OpenSpec.upto warnRuledSpec)

/-- 'skywavelaw08.WarnRuns', WHERE WHAT IT READS IS OF BULK AT MOST 1048576: true; the input reads as it did. -/
def warnRunsUptoRow : OpenClaim := { program := "ytcfbnmcdncndpaa", sum := "cbbc63dfe349c09319ca3c3a83842190d2528517e9f6878de27cfa93bf9fdedf", func := "skywave/skywavelaw08.WarnRuns", spec := "warnRuns", inPlace := ["slices.overlaps[skywave/api.WarnMessage]"], unfollowed := true, recurses := true, apart := false, narrowed := true }
def WarnRunsUptoSaid : Prop := warnRunsUptoRow.holds Try.pinned (OpenSpec.upto warnRunsSpec)

/-- 'skywavelaw08.WarnKept', WHERE WHAT IT READS IS OF BULK AT MOST 1048576: true; the input reads as it did. -/
def warnKeptUptoRow : OpenClaim := { program := "ytcfbnmcdncndpaa", sum := "cbbc63dfe349c09319ca3c3a83842190d2528517e9f6878de27cfa93bf9fdedf", func := "skywave/skywavelaw08.WarnKept", spec := "warnKept", inPlace := ["slices.overlaps[skywave/api.WarnMessage]"], unfollowed := true, recurses := true, apart := false, narrowed := true }
def WarnKeptUptoSaid : Prop := warnKeptUptoRow.holds Try.pinned (OpenSpec.upto warnKeptSpec)

/-- 'skywavelaw08.WarnStates', WHERE WHAT IT READS IS OF BULK AT MOST 1048576: true; the input reads as it did. -/
def warnStatesUptoRow : OpenClaim := { program := "ytcfbnmcdncndpaa", sum := "cbbc63dfe349c09319ca3c3a83842190d2528517e9f6878de27cfa93bf9fdedf", func := "skywave/skywavelaw08.WarnStates", spec := "warnStates", inPlace := ["slices.overlaps[skywave/api.WarnMessage]"], unfollowed := true, recurses := true, apart := false, narrowed := true }
def WarnStatesUptoSaid : Prop := warnStatesUptoRow.holds Try.pinned (OpenSpec.upto warnStatesSpec)

/-- 'skywavelaw08.WarnLasts', WHERE WHAT IT READS IS OF BULK AT MOST 1048576: true; the input reads as it did. -/
def warnLastsUptoRow : OpenClaim := { program := "ytcfbnmcdncndpaa", sum := "cbbc63dfe349c09319ca3c3a83842190d2528517e9f6878de27cfa93bf9fdedf", func := "skywave/skywavelaw08.WarnLasts", spec := "warnLasts", inPlace := ["slices.overlaps[skywave/api.WarnMessage]"], unfollowed := true, recurses := true, apart := false, narrowed := true }
def WarnLastsUptoSaid : Prop := warnLastsUptoRow.holds Try.pinned (OpenSpec.upto warnLastsSpec)

/-- 'skywavelaw08.WarnSteps', WHERE WHAT IT READS IS OF BULK AT MOST 1048576: true; the input reads as it did. -/
def warnStepsUptoRow : OpenClaim := { program := "ytcfbnmcdncndpaa", sum := "cbbc63dfe349c09319ca3c3a83842190d2528517e9f6878de27cfa93bf9fdedf", func := "skywave/skywavelaw08.WarnSteps", spec := "warnSteps", inPlace := ["slices.overlaps[skywave/api.WarnMessage]"], unfollowed := true, recurses := true, apart := false, narrowed := true }
def WarnStepsUptoSaid : Prop := warnStepsUptoRow.holds Try.pinned (OpenSpec.upto warnStepsSpec)

/-- 'skywavelaw08.WarnLinks', WHERE WHAT IT READS IS OF BULK AT MOST 1048576: true; the input reads as it did. -/
def warnLinksUptoRow : OpenClaim := { program := "ytcfbnmcdncndpaa", sum := "cbbc63dfe349c09319ca3c3a83842190d2528517e9f6878de27cfa93bf9fdedf", func := "skywave/skywavelaw08.WarnLinks", spec := "warnLinks", inPlace := ["slices.overlaps[skywave/api.WarnMessage]"], unfollowed := true, recurses := true, apart := false, narrowed := true }
def WarnLinksUptoSaid : Prop := warnLinksUptoRow.holds Try.pinned (OpenSpec.upto warnLinksSpec)

/-- 'skywavelaw08.WarnAnyOrder', WHERE WHAT IT READS IS OF BULK AT MOST 1048576: true; the input reads as it did. -/
def warnAnyOrderUptoRow : OpenClaim := { program := "ytcfbnmcdncndpaa", sum := "cbbc63dfe349c09319ca3c3a83842190d2528517e9f6878de27cfa93bf9fdedf", func := "skywave/skywavelaw08.WarnAnyOrder", spec := "warnAnyOrder", inPlace := ["slices.overlaps[skywave/api.WarnMessage]"], unfollowed := true, recurses := true, apart := false, narrowed := true }
def WarnAnyOrderUptoSaid : Prop := warnAnyOrderUptoRow.holds Try.pinned (OpenSpec.upto warnAnyOrderSpec)

/-- 'skywavelaw08.WarnFlushed', WHERE WHAT IT READS IS OF BULK AT MOST 1048576: true; the input reads as it did. -/
def warnFlushedUptoRow : OpenClaim := { program := "ytcfbnmcdncndpaa", sum := "cbbc63dfe349c09319ca3c3a83842190d2528517e9f6878de27cfa93bf9fdedf", func := "skywave/skywavelaw08.WarnFlushed", spec := "warnFlushed", inPlace := ["slices.overlaps[skywave/api.WarnMessage]"], unfollowed := true, recurses := true, apart := false, narrowed := true }
def WarnFlushedUptoSaid : Prop := warnFlushedUptoRow.holds Try.pinned (OpenSpec.upto warnFlushedSpec)

/-- 'skywavelaw08.WarnSteady', WHERE WHAT IT READS IS OF BULK AT MOST 1048576: true; the input reads as it did. -/
def warnSteadyUptoRow : OpenClaim := { program := "ytcfbnmcdncndpaa", sum := "cbbc63dfe349c09319ca3c3a83842190d2528517e9f6878de27cfa93bf9fdedf", func := "skywave/skywavelaw08.WarnSteady", spec := "warnSteady", inPlace := ["slices.overlaps[skywave/api.WarnMessage]"], unfollowed := true, recurses := true, apart := false, narrowed := true }
def WarnSteadyUptoSaid : Prop := warnSteadyUptoRow.holds Try.pinned (OpenSpec.upto warnSteadySpec)

/-- 'skywavelaw08.WarnStores', WHERE WHAT IT READS IS OF BULK AT MOST 1048576: true; the input reads as it did. -/
def warnStoresUptoRow : OpenClaim := { program := "ytcfbnmcdncndpaa", sum := "cbbc63dfe349c09319ca3c3a83842190d2528517e9f6878de27cfa93bf9fdedf", func := "skywave/skywavelaw08.WarnStores", spec := "warnStores", inPlace := ["slices.overlaps[skywave/api.WarnMessage]"], unfollowed := true, recurses := true, apart := false, narrowed := true }
def WarnStoresUptoSaid : Prop := warnStoresUptoRow.holds Try.pinned (OpenSpec.upto warnStoresSpec)

/-- 'skywavelaw08.WarnClients', WHERE WHAT IT READS IS OF BULK AT MOST 1048576: true; the input reads as it did. -/
def warnClientsUptoRow : OpenClaim := { program := "ytcfbnmcdncndpaa", sum := "cbbc63dfe349c09319ca3c3a83842190d2528517e9f6878de27cfa93bf9fdedf", func := "skywave/skywavelaw08.WarnClients", spec := "warnClients", inPlace := ["slices.overlaps[skywave/api.WarnMessage]"], unfollowed := true, recurses := true, apart := false, narrowed := true }
def WarnClientsUptoSaid : Prop := warnClientsUptoRow.holds Try.pinned (OpenSpec.upto warnClientsSpec)

end Rows
end Go.Proofs.Ytcfbnmcdncndpaa
