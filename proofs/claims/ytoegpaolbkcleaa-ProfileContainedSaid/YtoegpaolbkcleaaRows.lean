/-
  No cell of these rows narrows 'for every input' (looked for: loops, veiled, ifaces, maps, wideKeys, modest, calm, conditions, laid).
  DERIVED. THE GIVEN ROWS OF THIS SEAT. 11 by the template 'for every input the law returns true; each argument reads behind the call as it read before'; 0 by the template 'total and deterministic' (their statements: YtoegpaolbkcleaaTotals.lean).
  GIVEN WITH THE SEED: the statements are not yours to turn. If you find one false, say at which input.
  Laid BY PROGRAM, IN A SANDBOX (cutbox-rows.mjs): the forced cells as the released guide's own fill.sh prints them over the translation 248fb2023f2cbae4… (all of the seat's roots in one cut). By AI agents, Wed Nov 11 2026. No macro, syntax, notation, axiom, sorry.
-/
import Derived.Test.YtoegpaolbkcleaaChecked
import GoSem.Claim
import GoSem.ClaimJoined
import GoSem.ClaimMapViews
import Derived.JoinedTies
import Derived.KernelRfl
namespace Go.Proofs.Ytoegpaolbkcleaa
/- THE CELL 'sum', in the pinned program and in every row, IS THE sha256 OF THE DUMP (.gsa) THAT YtoegpaolbkcleaaProg.lean LOADS. Nothing in Lean hashes anything: it is a label: what it is worth is what the hold of that sum in a sandbox is worth. -/
noncomputable def Try.pinned : Pinned := { name := "ytoegpaolbkcleaa", sum := "248fb2023f2cbae4dfdbbb36a3cd24099c34dc173f240b23f37b152061ead129", checked := Try.checked }
namespace Rows
def none {H : Type} : Left H := { results := [], args := [] }

/-- 'skywavelaw04.ProfileHeights': WHATEVER THE INPUT: true; the input reads as it did. -/
def profileHeightsSpec : ChangeSpec := { name := "profileHeights", fn := fun _ => fun
  | [d1, d2] => { results := [.lit (.bool true)], args := [d1, d2] }
  | _ => none }
def profileHeightsRow : OpenClaim := { program := "ytoegpaolbkcleaa", sum := "248fb2023f2cbae4dfdbbb36a3cd24099c34dc173f240b23f37b152061ead129", func := "skywave/skywavelaw04.ProfileHeights", spec := "profileHeights", unfollowed := true, recurses := true, apart := false }
def ProfileHeightsSaid : Prop := profileHeightsRow.holds Try.pinned (OpenSpec.ofChange profileHeightsSpec)

/-- ITS FALSE NEIGHBOUR: 'it returns false'. Refute it at one input. -/
def profileHeightsWrong : ChangeSpec := { name := "profileHeights", fn := fun _ => fun
  | [d1, d2] => { results := [.lit (.bool false)], args := [d1, d2] }
  | _ => none }
def ProfileHeightsWrongFalsely : Prop := profileHeightsRow.holds Try.pinned (OpenSpec.ofChange profileHeightsWrong)

/-- 'skywavelaw04.ProfileThicker': WHATEVER THE INPUT: true; the input reads as it did. -/
def profileThickerSpec : ChangeSpec := { name := "profileThicker", fn := fun _ => fun
  | [d1, d2] => { results := [.lit (.bool true)], args := [d1, d2] }
  | _ => none }
def profileThickerRow : OpenClaim := { program := "ytoegpaolbkcleaa", sum := "248fb2023f2cbae4dfdbbb36a3cd24099c34dc173f240b23f37b152061ead129", func := "skywave/skywavelaw04.ProfileThicker", spec := "profileThicker", unfollowed := true, recurses := true, apart := false }
def ProfileThickerSaid : Prop := profileThickerRow.holds Try.pinned (OpenSpec.ofChange profileThickerSpec)

/-- ITS FALSE NEIGHBOUR: 'it returns false'. Refute it at one input. -/
def profileThickerWrong : ChangeSpec := { name := "profileThicker", fn := fun _ => fun
  | [d1, d2] => { results := [.lit (.bool false)], args := [d1, d2] }
  | _ => none }
def ProfileThickerWrongFalsely : Prop := profileThickerRow.holds Try.pinned (OpenSpec.ofChange profileThickerWrong)

/-- 'skywavelaw04.ProfileIndexes': WHATEVER THE INPUT: true; the input reads as it did. -/
def profileIndexesSpec : ChangeSpec := { name := "profileIndexes", fn := fun _ => fun
  | [d1, d2] => { results := [.lit (.bool true)], args := [d1, d2] }
  | _ => none }
def profileIndexesRow : OpenClaim := { program := "ytoegpaolbkcleaa", sum := "248fb2023f2cbae4dfdbbb36a3cd24099c34dc173f240b23f37b152061ead129", func := "skywave/skywavelaw04.ProfileIndexes", spec := "profileIndexes", unfollowed := true, recurses := true, apart := false }
def ProfileIndexesSaid : Prop := profileIndexesRow.holds Try.pinned (OpenSpec.ofChange profileIndexesSpec)

/-- ITS FALSE NEIGHBOUR: 'it returns false'. Refute it at one input. -/
def profileIndexesWrong : ChangeSpec := { name := "profileIndexes", fn := fun _ => fun
  | [d1, d2] => { results := [.lit (.bool false)], args := [d1, d2] }
  | _ => none }
def ProfileIndexesWrongFalsely : Prop := profileIndexesRow.holds Try.pinned (OpenSpec.ofChange profileIndexesWrong)

/-- 'skywavelaw04.ProfileLaminations': WHATEVER THE INPUT: true; the input reads as it did. -/
def profileLaminationsSpec : ChangeSpec := { name := "profileLaminations", fn := fun _ => fun
  | [d] => { results := [.lit (.bool true)], args := [d] }
  | _ => none }
def profileLaminationsRow : OpenClaim := { program := "ytoegpaolbkcleaa", sum := "248fb2023f2cbae4dfdbbb36a3cd24099c34dc173f240b23f37b152061ead129", func := "skywave/skywavelaw04.ProfileLaminations", spec := "profileLaminations", unfollowed := true, recurses := true, apart := false }
def ProfileLaminationsSaid : Prop := profileLaminationsRow.holds Try.pinned (OpenSpec.ofChange profileLaminationsSpec)

/-- ITS FALSE NEIGHBOUR: 'it returns false'. Refute it at one input. -/
def profileLaminationsWrong : ChangeSpec := { name := "profileLaminations", fn := fun _ => fun
  | [d] => { results := [.lit (.bool false)], args := [d] }
  | _ => none }
def ProfileLaminationsWrongFalsely : Prop := profileLaminationsRow.holds Try.pinned (OpenSpec.ofChange profileLaminationsWrong)

/-- 'skywavelaw04.ProfileContained': WHATEVER THE INPUT: true; the input reads as it did. -/
def profileContainedSpec : ChangeSpec := { name := "profileContained", fn := fun _ => fun
  | [d1, d2] => { results := [.lit (.bool true)], args := [d1, d2] }
  | _ => none }
def profileContainedRow : OpenClaim := { program := "ytoegpaolbkcleaa", sum := "248fb2023f2cbae4dfdbbb36a3cd24099c34dc173f240b23f37b152061ead129", func := "skywave/skywavelaw04.ProfileContained", spec := "profileContained", unfollowed := true, recurses := true, apart := false }
def ProfileContainedSaid : Prop := profileContainedRow.holds Try.pinned (OpenSpec.ofChange profileContainedSpec)

/-- ITS FALSE NEIGHBOUR: 'it returns false'. Refute it at one input. -/
def profileContainedWrong : ChangeSpec := { name := "profileContained", fn := fun _ => fun
  | [d1, d2] => { results := [.lit (.bool false)], args := [d1, d2] }
  | _ => none }
def ProfileContainedWrongFalsely : Prop := profileContainedRow.holds Try.pinned (OpenSpec.ofChange profileContainedWrong)

/-- 'skywavelaw04.ProfileTraces': WHATEVER THE INPUT: true; the input reads as it did. -/
def profileTracesSpec : ChangeSpec := { name := "profileTraces", fn := fun _ => fun
  | [d1, d2] => { results := [.lit (.bool true)], args := [d1, d2] }
  | _ => none }
def profileTracesRow : OpenClaim := { program := "ytoegpaolbkcleaa", sum := "248fb2023f2cbae4dfdbbb36a3cd24099c34dc173f240b23f37b152061ead129", func := "skywave/skywavelaw04.ProfileTraces", spec := "profileTraces", unfollowed := true, recurses := true, apart := false }
def ProfileTracesSaid : Prop := profileTracesRow.holds Try.pinned (OpenSpec.ofChange profileTracesSpec)

/-- ITS FALSE NEIGHBOUR: 'it returns false'. Refute it at one input. -/
def profileTracesWrong : ChangeSpec := { name := "profileTraces", fn := fun _ => fun
  | [d1, d2] => { results := [.lit (.bool false)], args := [d1, d2] }
  | _ => none }
def ProfileTracesWrongFalsely : Prop := profileTracesRow.holds Try.pinned (OpenSpec.ofChange profileTracesWrong)

/-- 'skywavelaw04.ProfileFits': WHATEVER THE INPUT: true; the input reads as it did. -/
def profileFitsSpec : ChangeSpec := { name := "profileFits", fn := fun _ => fun
  | [d1, d2] => { results := [.lit (.bool true)], args := [d1, d2] }
  | _ => none }
def profileFitsRow : OpenClaim := { program := "ytoegpaolbkcleaa", sum := "248fb2023f2cbae4dfdbbb36a3cd24099c34dc173f240b23f37b152061ead129", func := "skywave/skywavelaw04.ProfileFits", spec := "profileFits", unfollowed := true, recurses := true, apart := false }
def ProfileFitsSaid : Prop := profileFitsRow.holds Try.pinned (OpenSpec.ofChange profileFitsSpec)

/-- ITS FALSE NEIGHBOUR: 'it returns false'. Refute it at one input. -/
def profileFitsWrong : ChangeSpec := { name := "profileFits", fn := fun _ => fun
  | [d1, d2] => { results := [.lit (.bool false)], args := [d1, d2] }
  | _ => none }
def ProfileFitsWrongFalsely : Prop := profileFitsRow.holds Try.pinned (OpenSpec.ofChange profileFitsWrong)

/-- 'skywavelaw04.ProfileSlabs': WHATEVER THE INPUT: true; the input reads as it did. -/
def profileSlabsSpec : ChangeSpec := { name := "profileSlabs", fn := fun _ => fun
  | [d1, d2] => { results := [.lit (.bool true)], args := [d1, d2] }
  | _ => none }
def profileSlabsRow : OpenClaim := { program := "ytoegpaolbkcleaa", sum := "248fb2023f2cbae4dfdbbb36a3cd24099c34dc173f240b23f37b152061ead129", func := "skywave/skywavelaw04.ProfileSlabs", spec := "profileSlabs", unfollowed := true, recurses := true, apart := false }
def ProfileSlabsSaid : Prop := profileSlabsRow.holds Try.pinned (OpenSpec.ofChange profileSlabsSpec)

/-- ITS FALSE NEIGHBOUR: 'it returns false'. Refute it at one input. -/
def profileSlabsWrong : ChangeSpec := { name := "profileSlabs", fn := fun _ => fun
  | [d1, d2] => { results := [.lit (.bool false)], args := [d1, d2] }
  | _ => none }
def ProfileSlabsWrongFalsely : Prop := profileSlabsRow.holds Try.pinned (OpenSpec.ofChange profileSlabsWrong)

/-- 'skywavelaw04.ProfileDistances': WHATEVER THE INPUT: true; the input reads as it did. -/
def profileDistancesSpec : ChangeSpec := { name := "profileDistances", fn := fun _ => fun
  | [d1, d2] => { results := [.lit (.bool true)], args := [d1, d2] }
  | _ => none }
def profileDistancesRow : OpenClaim := { program := "ytoegpaolbkcleaa", sum := "248fb2023f2cbae4dfdbbb36a3cd24099c34dc173f240b23f37b152061ead129", func := "skywave/skywavelaw04.ProfileDistances", spec := "profileDistances", unfollowed := true, recurses := true, apart := false }
def ProfileDistancesSaid : Prop := profileDistancesRow.holds Try.pinned (OpenSpec.ofChange profileDistancesSpec)

/-- ITS FALSE NEIGHBOUR: 'it returns false'. Refute it at one input. -/
def profileDistancesWrong : ChangeSpec := { name := "profileDistances", fn := fun _ => fun
  | [d1, d2] => { results := [.lit (.bool false)], args := [d1, d2] }
  | _ => none }
def ProfileDistancesWrongFalsely : Prop := profileDistancesRow.holds Try.pinned (OpenSpec.ofChange profileDistancesWrong)

/-- 'skywavelaw04.ProfileMetric': WHATEVER THE INPUT: true; the input reads as it did. -/
def profileMetricSpec : ChangeSpec := { name := "profileMetric", fn := fun _ => fun
  | [d1, d2, d3] => { results := [.lit (.bool true)], args := [d1, d2, d3] }
  | _ => none }
def profileMetricRow : OpenClaim := { program := "ytoegpaolbkcleaa", sum := "248fb2023f2cbae4dfdbbb36a3cd24099c34dc173f240b23f37b152061ead129", func := "skywave/skywavelaw04.ProfileMetric", spec := "profileMetric", unfollowed := true, recurses := true, apart := false }
def ProfileMetricSaid : Prop := profileMetricRow.holds Try.pinned (OpenSpec.ofChange profileMetricSpec)

/-- ITS FALSE NEIGHBOUR: 'it returns false'. Refute it at one input. -/
def profileMetricWrong : ChangeSpec := { name := "profileMetric", fn := fun _ => fun
  | [d1, d2, d3] => { results := [.lit (.bool false)], args := [d1, d2, d3] }
  | _ => none }
def ProfileMetricWrongFalsely : Prop := profileMetricRow.holds Try.pinned (OpenSpec.ofChange profileMetricWrong)

/-- 'skywavelaw04.ProfileShapes': WHATEVER THE INPUT: true; the input reads as it did. -/
def profileShapesSpec : ChangeSpec := { name := "profileShapes", fn := fun _ => fun
  | [d] => { results := [.lit (.bool true)], args := [d] }
  | _ => none }
def profileShapesRow : OpenClaim := { program := "ytoegpaolbkcleaa", sum := "248fb2023f2cbae4dfdbbb36a3cd24099c34dc173f240b23f37b152061ead129", func := "skywave/skywavelaw04.ProfileShapes", spec := "profileShapes", unfollowed := true, recurses := true, apart := false }
def ProfileShapesSaid : Prop := profileShapesRow.holds Try.pinned (OpenSpec.ofChange profileShapesSpec)

/-- ITS FALSE NEIGHBOUR: 'it returns false'. Refute it at one input. -/
def profileShapesWrong : ChangeSpec := { name := "profileShapes", fn := fun _ => fun
  | [d] => { results := [.lit (.bool false)], args := [d] }
  | _ => none }
def ProfileShapesWrongFalsely : Prop := profileShapesRow.holds Try.pinned (OpenSpec.ofChange profileShapesWrong)

/- THE SECOND FORM. 'bulk': how many values and letters a reading holds, each counted each time it is reached (what is shared counts as often as it is met; a slice's spare places count too). A statement '..UptoSaid' is the law's where the arguments, and the package variables that the reading takes, are together of bulk at most 1048576: NARROWER than '..Said'. Prove '..Said' where nothing that the law and all that it calls make is longer than what came in: it says more and counts as full. Else prove '..UptoSaid'. A law counts once. -/
mutual
def uptoBulk {H : Type} : DataW H → Nat
  | .lit (.string bytes) => bytes.length + 1
  | .lit _ => 1
  | .nil => 1
  | .ptr d => uptoBulk d + 1
  | .slice elems spare => uptoBulkAll elems + uptoBulkAll spare + 1
  | .agg parts => uptoBulkAll parts + 1
  | .iface _ d => uptoBulk d + 1
  | .map entries => uptoBulkEntries entries + 1
  | .held _ => 1
def uptoBulkAll {H : Type} : List (DataW H) → Nat
  | [] => 0
  | d :: r => uptoBulk d + uptoBulkAll r
def uptoBulkEntries {H : Type} : List (Lit × DataW H) → Nat
  | [] => 0
  | x :: r => uptoBulkEntry x + uptoBulkEntries r
def uptoBulkEntry {H : Type} : Lit × DataW H → Nat
  | (.string bytes, d) => bytes.length + uptoBulk d + 1
  | (_, d) => uptoBulk d + 1
 end
def uptoSmall : (H : Type) → List (DataW H) → Bool := fun _ ds => decide (uptoBulkAll ds ≤ 1048576)
def OpenSpec.upto (s : _root_.Go.ChangeSpec) : _root_.Go.OpenSpec := { _root_.Go.OpenSpec.ofChange s with cond := some uptoSmall }

/-- 'skywavelaw04.ProfileHeights', WHERE WHAT IT READS IS OF BULK AT MOST 1048576: true; the input reads as it did. -/
def profileHeightsUptoRow : OpenClaim := { program := "ytoegpaolbkcleaa", sum := "248fb2023f2cbae4dfdbbb36a3cd24099c34dc173f240b23f37b152061ead129", func := "skywave/skywavelaw04.ProfileHeights", spec := "profileHeights", unfollowed := true, recurses := true, apart := false, narrowed := true }
def ProfileHeightsUptoSaid : Prop := profileHeightsUptoRow.holds Try.pinned (OpenSpec.upto profileHeightsSpec)

/-- 'skywavelaw04.ProfileThicker', WHERE WHAT IT READS IS OF BULK AT MOST 1048576: true; the input reads as it did. -/
def profileThickerUptoRow : OpenClaim := { program := "ytoegpaolbkcleaa", sum := "248fb2023f2cbae4dfdbbb36a3cd24099c34dc173f240b23f37b152061ead129", func := "skywave/skywavelaw04.ProfileThicker", spec := "profileThicker", unfollowed := true, recurses := true, apart := false, narrowed := true }
def ProfileThickerUptoSaid : Prop := profileThickerUptoRow.holds Try.pinned (OpenSpec.upto profileThickerSpec)

/-- 'skywavelaw04.ProfileIndexes', WHERE WHAT IT READS IS OF BULK AT MOST 1048576: true; the input reads as it did. -/
def profileIndexesUptoRow : OpenClaim := { program := "ytoegpaolbkcleaa", sum := "248fb2023f2cbae4dfdbbb36a3cd24099c34dc173f240b23f37b152061ead129", func := "skywave/skywavelaw04.ProfileIndexes", spec := "profileIndexes", unfollowed := true, recurses := true, apart := false, narrowed := true }
def ProfileIndexesUptoSaid : Prop := profileIndexesUptoRow.holds Try.pinned (OpenSpec.upto profileIndexesSpec)

/-- 'skywavelaw04.ProfileLaminations', WHERE WHAT IT READS IS OF BULK AT MOST 1048576: true; the input reads as it did. -/
def profileLaminationsUptoRow : OpenClaim := { program := "ytoegpaolbkcleaa", sum := "248fb2023f2cbae4dfdbbb36a3cd24099c34dc173f240b23f37b152061ead129", func := "skywave/skywavelaw04.ProfileLaminations", spec := "profileLaminations", unfollowed := true, recurses := true, apart := false, narrowed := true }
def ProfileLaminationsUptoSaid : Prop := profileLaminationsUptoRow.holds Try.pinned (OpenSpec.upto profileLaminationsSpec)

/-- 'skywavelaw04.ProfileContained', WHERE WHAT IT READS IS OF BULK AT MOST 1048576: true; the input reads as it did. -/
def profileContainedUptoRow : OpenClaim := { program := "ytoegpaolbkcleaa", sum := "248fb2023f2cbae4dfdbbb36a3cd24099c34dc173f240b23f37b152061ead129", func := "skywave/skywavelaw04.ProfileContained", spec := "profileContained", unfollowed := true, recurses := true, apart := false, narrowed := true }
def ProfileContainedUptoSaid : Prop := profileContainedUptoRow.holds Try.pinned (OpenSpec.upto profileContainedSpec)

/-- 'skywavelaw04.ProfileTraces', WHERE WHAT IT READS IS OF BULK AT MOST 1048576: true; the input reads as it did. -/
def profileTracesUptoRow : OpenClaim := { program := "ytoegpaolbkcleaa", sum := "248fb2023f2cbae4dfdbbb36a3cd24099c34dc173f240b23f37b152061ead129", func := "skywave/skywavelaw04.ProfileTraces", spec := "profileTraces", unfollowed := true, recurses := true, apart := false, narrowed := true }
def ProfileTracesUptoSaid : Prop := profileTracesUptoRow.holds Try.pinned (OpenSpec.upto profileTracesSpec)

/-- 'skywavelaw04.ProfileFits', WHERE WHAT IT READS IS OF BULK AT MOST 1048576: true; the input reads as it did. -/
def profileFitsUptoRow : OpenClaim := { program := "ytoegpaolbkcleaa", sum := "248fb2023f2cbae4dfdbbb36a3cd24099c34dc173f240b23f37b152061ead129", func := "skywave/skywavelaw04.ProfileFits", spec := "profileFits", unfollowed := true, recurses := true, apart := false, narrowed := true }
def ProfileFitsUptoSaid : Prop := profileFitsUptoRow.holds Try.pinned (OpenSpec.upto profileFitsSpec)

/-- 'skywavelaw04.ProfileSlabs', WHERE WHAT IT READS IS OF BULK AT MOST 1048576: true; the input reads as it did. -/
def profileSlabsUptoRow : OpenClaim := { program := "ytoegpaolbkcleaa", sum := "248fb2023f2cbae4dfdbbb36a3cd24099c34dc173f240b23f37b152061ead129", func := "skywave/skywavelaw04.ProfileSlabs", spec := "profileSlabs", unfollowed := true, recurses := true, apart := false, narrowed := true }
def ProfileSlabsUptoSaid : Prop := profileSlabsUptoRow.holds Try.pinned (OpenSpec.upto profileSlabsSpec)

/-- 'skywavelaw04.ProfileDistances', WHERE WHAT IT READS IS OF BULK AT MOST 1048576: true; the input reads as it did. -/
def profileDistancesUptoRow : OpenClaim := { program := "ytoegpaolbkcleaa", sum := "248fb2023f2cbae4dfdbbb36a3cd24099c34dc173f240b23f37b152061ead129", func := "skywave/skywavelaw04.ProfileDistances", spec := "profileDistances", unfollowed := true, recurses := true, apart := false, narrowed := true }
def ProfileDistancesUptoSaid : Prop := profileDistancesUptoRow.holds Try.pinned (OpenSpec.upto profileDistancesSpec)

/-- 'skywavelaw04.ProfileMetric', WHERE WHAT IT READS IS OF BULK AT MOST 1048576: true; the input reads as it did. -/
def profileMetricUptoRow : OpenClaim := { program := "ytoegpaolbkcleaa", sum := "248fb2023f2cbae4dfdbbb36a3cd24099c34dc173f240b23f37b152061ead129", func := "skywave/skywavelaw04.ProfileMetric", spec := "profileMetric", unfollowed := true, recurses := true, apart := false, narrowed := true }
def ProfileMetricUptoSaid : Prop := profileMetricUptoRow.holds Try.pinned (OpenSpec.upto profileMetricSpec)

/-- 'skywavelaw04.ProfileShapes', WHERE WHAT IT READS IS OF BULK AT MOST 1048576: true; the input reads as it did. -/
def profileShapesUptoRow : OpenClaim := { program := "ytoegpaolbkcleaa", sum := "248fb2023f2cbae4dfdbbb36a3cd24099c34dc173f240b23f37b152061ead129", func := "skywave/skywavelaw04.ProfileShapes", spec := "profileShapes", unfollowed := true, recurses := true, apart := false, narrowed := true }
def ProfileShapesUptoSaid : Prop := profileShapesUptoRow.holds Try.pinned (OpenSpec.upto profileShapesSpec)

end Rows
end Go.Proofs.Ytoegpaolbkcleaa
