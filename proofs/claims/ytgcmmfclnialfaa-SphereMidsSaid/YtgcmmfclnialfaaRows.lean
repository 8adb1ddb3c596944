/-
  No cell of these rows narrows 'for every input' (looked for: loops, veiled, ifaces, maps, wideKeys, modest, calm, conditions, laid).
  DERIVED. THE GIVEN ROWS OF THIS SEAT. 12 by the template 'for every input the law returns true; each argument reads behind the call as it read before'; 0 by the template 'total and deterministic' (their statements: YtgcmmfclnialfaaTotals.lean).
  GIVEN WITH THE SEED: the statements are not yours to turn. If you find one false, say at which input.
  Laid BY PROGRAM, IN A SANDBOX (cutbox-rows.mjs): the forced cells as the released guide's own fill.sh prints them over the translation 2bc38b1073327ce0… (all of the seat's roots in one cut). By AI agents, Wed Nov 11 2026. No macro, syntax, notation, axiom, sorry.
-/
import Derived.Test.YtgcmmfclnialfaaChecked
import GoSem.Claim
import GoSem.ClaimJoined
import GoSem.ClaimMapViews
import Derived.JoinedTies
import Derived.KernelRfl
namespace Go.Proofs.Ytgcmmfclnialfaa
/- THE CELL 'sum', in the pinned program and in every row, IS THE sha256 OF THE DUMP (.gsa) THAT YtgcmmfclnialfaaProg.lean LOADS. Nothing in Lean hashes anything: it is a label: what it is worth is what the hold of that sum in a sandbox is worth. -/
noncomputable def Try.pinned : Pinned := { name := "ytgcmmfclnialfaa", sum := "2bc38b1073327ce0d02d53dda309765c676798b1668b4fc121e91e0ad57f153a", checked := Try.checked }
namespace Rows
def none {H : Type} : Left H := { results := [], args := [] }

/-- 'flightdecklaw09.SphereVectors': WHATEVER THE INPUT: true; the input reads as it did. -/
def sphereVectorsSpec : ChangeSpec := { name := "sphereVectors", fn := fun _ => fun
  | [d] => { results := [.lit (.bool true)], args := [d] }
  | _ => none }
def sphereVectorsRow : OpenClaim := { program := "ytgcmmfclnialfaa", sum := "2bc38b1073327ce0d02d53dda309765c676798b1668b4fc121e91e0ad57f153a", func := "flightdeck/flightdecklaw09.SphereVectors", spec := "sphereVectors", unfollowed := true, recurses := true, apart := false }
def SphereVectorsSaid : Prop := sphereVectorsRow.holds Try.pinned (OpenSpec.ofChange sphereVectorsSpec)

/-- ITS FALSE NEIGHBOUR: 'it returns false'. Refute it at one input. -/
def sphereVectorsWrong : ChangeSpec := { name := "sphereVectors", fn := fun _ => fun
  | [d] => { results := [.lit (.bool false)], args := [d] }
  | _ => none }
def SphereVectorsWrongFalsely : Prop := sphereVectorsRow.holds Try.pinned (OpenSpec.ofChange sphereVectorsWrong)

/-- 'flightdecklaw09.SpherePositions': WHATEVER THE INPUT: true; the input reads as it did. -/
def spherePositionsSpec : ChangeSpec := { name := "spherePositions", fn := fun _ => fun
  | [d] => { results := [.lit (.bool true)], args := [d] }
  | _ => none }
def spherePositionsRow : OpenClaim := { program := "ytgcmmfclnialfaa", sum := "2bc38b1073327ce0d02d53dda309765c676798b1668b4fc121e91e0ad57f153a", func := "flightdeck/flightdecklaw09.SpherePositions", spec := "spherePositions", unfollowed := true, recurses := true, apart := false }
def SpherePositionsSaid : Prop := spherePositionsRow.holds Try.pinned (OpenSpec.ofChange spherePositionsSpec)

/-- ITS FALSE NEIGHBOUR: 'it returns false'. Refute it at one input. -/
def spherePositionsWrong : ChangeSpec := { name := "spherePositions", fn := fun _ => fun
  | [d] => { results := [.lit (.bool false)], args := [d] }
  | _ => none }
def SpherePositionsWrongFalsely : Prop := spherePositionsRow.holds Try.pinned (OpenSpec.ofChange spherePositionsWrong)

/-- 'flightdecklaw09.SphereDists': WHATEVER THE INPUT: true; the input reads as it did. -/
def sphereDistsSpec : ChangeSpec := { name := "sphereDists", fn := fun _ => fun
  | [d1, d2] => { results := [.lit (.bool true)], args := [d1, d2] }
  | _ => none }
def sphereDistsRow : OpenClaim := { program := "ytgcmmfclnialfaa", sum := "2bc38b1073327ce0d02d53dda309765c676798b1668b4fc121e91e0ad57f153a", func := "flightdeck/flightdecklaw09.SphereDists", spec := "sphereDists", unfollowed := true, recurses := true, apart := false }
def SphereDistsSaid : Prop := sphereDistsRow.holds Try.pinned (OpenSpec.ofChange sphereDistsSpec)

/-- ITS FALSE NEIGHBOUR: 'it returns false'. Refute it at one input. -/
def sphereDistsWrong : ChangeSpec := { name := "sphereDists", fn := fun _ => fun
  | [d1, d2] => { results := [.lit (.bool false)], args := [d1, d2] }
  | _ => none }
def SphereDistsWrongFalsely : Prop := sphereDistsRow.holds Try.pinned (OpenSpec.ofChange sphereDistsWrong)

/-- 'flightdecklaw09.SphereMetric': WHATEVER THE INPUT: true; the input reads as it did. -/
def sphereMetricSpec : ChangeSpec := { name := "sphereMetric", fn := fun _ => fun
  | [d1, d2, d3] => { results := [.lit (.bool true)], args := [d1, d2, d3] }
  | _ => none }
def sphereMetricRow : OpenClaim := { program := "ytgcmmfclnialfaa", sum := "2bc38b1073327ce0d02d53dda309765c676798b1668b4fc121e91e0ad57f153a", func := "flightdeck/flightdecklaw09.SphereMetric", spec := "sphereMetric", unfollowed := true, recurses := true, apart := false }
def SphereMetricSaid : Prop := sphereMetricRow.holds Try.pinned (OpenSpec.ofChange sphereMetricSpec)

/-- ITS FALSE NEIGHBOUR: 'it returns false'. Refute it at one input. -/
def sphereMetricWrong : ChangeSpec := { name := "sphereMetric", fn := fun _ => fun
  | [d1, d2, d3] => { results := [.lit (.bool false)], args := [d1, d2, d3] }
  | _ => none }
def SphereMetricWrongFalsely : Prop := sphereMetricRow.holds Try.pinned (OpenSpec.ofChange sphereMetricWrong)

/-- 'flightdecklaw09.SphereCourses': WHATEVER THE INPUT: true; the input reads as it did. -/
def sphereCoursesSpec : ChangeSpec := { name := "sphereCourses", fn := fun _ => fun
  | [d1, d2] => { results := [.lit (.bool true)], args := [d1, d2] }
  | _ => none }
def sphereCoursesRow : OpenClaim := { program := "ytgcmmfclnialfaa", sum := "2bc38b1073327ce0d02d53dda309765c676798b1668b4fc121e91e0ad57f153a", func := "flightdeck/flightdecklaw09.SphereCourses", spec := "sphereCourses", unfollowed := true, recurses := true, apart := false }
def SphereCoursesSaid : Prop := sphereCoursesRow.holds Try.pinned (OpenSpec.ofChange sphereCoursesSpec)

/-- ITS FALSE NEIGHBOUR: 'it returns false'. Refute it at one input. -/
def sphereCoursesWrong : ChangeSpec := { name := "sphereCourses", fn := fun _ => fun
  | [d1, d2] => { results := [.lit (.bool false)], args := [d1, d2] }
  | _ => none }
def SphereCoursesWrongFalsely : Prop := sphereCoursesRow.holds Try.pinned (OpenSpec.ofChange sphereCoursesWrong)

/-- 'flightdecklaw09.SphereAlongs': WHATEVER THE INPUT: true; the input reads as it did. -/
def sphereAlongsSpec : ChangeSpec := { name := "sphereAlongs", fn := fun _ => fun
  | [d1, d2, d3] => { results := [.lit (.bool true)], args := [d1, d2, d3] }
  | _ => none }
def sphereAlongsRow : OpenClaim := { program := "ytgcmmfclnialfaa", sum := "2bc38b1073327ce0d02d53dda309765c676798b1668b4fc121e91e0ad57f153a", func := "flightdeck/flightdecklaw09.SphereAlongs", spec := "sphereAlongs", unfollowed := true, recurses := true, apart := false }
def SphereAlongsSaid : Prop := sphereAlongsRow.holds Try.pinned (OpenSpec.ofChange sphereAlongsSpec)

/-- ITS FALSE NEIGHBOUR: 'it returns false'. Refute it at one input. -/
def sphereAlongsWrong : ChangeSpec := { name := "sphereAlongs", fn := fun _ => fun
  | [d1, d2, d3] => { results := [.lit (.bool false)], args := [d1, d2, d3] }
  | _ => none }
def SphereAlongsWrongFalsely : Prop := sphereAlongsRow.holds Try.pinned (OpenSpec.ofChange sphereAlongsWrong)

/-- 'flightdecklaw09.SphereReaches': WHATEVER THE INPUT: true; the input reads as it did. -/
def sphereReachesSpec : ChangeSpec := { name := "sphereReaches", fn := fun _ => fun
  | [d1, d2, d3] => { results := [.lit (.bool true)], args := [d1, d2, d3] }
  | _ => none }
def sphereReachesRow : OpenClaim := { program := "ytgcmmfclnialfaa", sum := "2bc38b1073327ce0d02d53dda309765c676798b1668b4fc121e91e0ad57f153a", func := "flightdeck/flightdecklaw09.SphereReaches", spec := "sphereReaches", unfollowed := true, recurses := true, apart := false }
def SphereReachesSaid : Prop := sphereReachesRow.holds Try.pinned (OpenSpec.ofChange sphereReachesSpec)

/-- ITS FALSE NEIGHBOUR: 'it returns false'. Refute it at one input. -/
def sphereReachesWrong : ChangeSpec := { name := "sphereReaches", fn := fun _ => fun
  | [d1, d2, d3] => { results := [.lit (.bool false)], args := [d1, d2, d3] }
  | _ => none }
def SphereReachesWrongFalsely : Prop := sphereReachesRow.holds Try.pinned (OpenSpec.ofChange sphereReachesWrong)

/-- 'flightdecklaw09.SphereReturns': WHATEVER THE INPUT: true; the input reads as it did. -/
def sphereReturnsSpec : ChangeSpec := { name := "sphereReturns", fn := fun _ => fun
  | [d1, d2] => { results := [.lit (.bool true)], args := [d1, d2] }
  | _ => none }
def sphereReturnsRow : OpenClaim := { program := "ytgcmmfclnialfaa", sum := "2bc38b1073327ce0d02d53dda309765c676798b1668b4fc121e91e0ad57f153a", func := "flightdeck/flightdecklaw09.SphereReturns", spec := "sphereReturns", unfollowed := true, recurses := true, apart := false }
def SphereReturnsSaid : Prop := sphereReturnsRow.holds Try.pinned (OpenSpec.ofChange sphereReturnsSpec)

/-- ITS FALSE NEIGHBOUR: 'it returns false'. Refute it at one input. -/
def sphereReturnsWrong : ChangeSpec := { name := "sphereReturns", fn := fun _ => fun
  | [d1, d2] => { results := [.lit (.bool false)], args := [d1, d2] }
  | _ => none }
def SphereReturnsWrongFalsely : Prop := sphereReturnsRow.holds Try.pinned (OpenSpec.ofChange sphereReturnsWrong)

/-- 'flightdecklaw09.SphereLocals': WHATEVER THE INPUT: true; the input reads as it did. -/
def sphereLocalsSpec : ChangeSpec := { name := "sphereLocals", fn := fun _ => fun
  | [d1, d2] => { results := [.lit (.bool true)], args := [d1, d2] }
  | _ => none }
def sphereLocalsRow : OpenClaim := { program := "ytgcmmfclnialfaa", sum := "2bc38b1073327ce0d02d53dda309765c676798b1668b4fc121e91e0ad57f153a", func := "flightdeck/flightdecklaw09.SphereLocals", spec := "sphereLocals", unfollowed := true, recurses := true, apart := false }
def SphereLocalsSaid : Prop := sphereLocalsRow.holds Try.pinned (OpenSpec.ofChange sphereLocalsSpec)

/-- ITS FALSE NEIGHBOUR: 'it returns false'. Refute it at one input. -/
def sphereLocalsWrong : ChangeSpec := { name := "sphereLocals", fn := fun _ => fun
  | [d1, d2] => { results := [.lit (.bool false)], args := [d1, d2] }
  | _ => none }
def SphereLocalsWrongFalsely : Prop := sphereLocalsRow.holds Try.pinned (OpenSpec.ofChange sphereLocalsWrong)

/-- 'flightdecklaw09.SphereCrosses': WHATEVER THE INPUT: true; the input reads as it did. -/
def sphereCrossesSpec : ChangeSpec := { name := "sphereCrosses", fn := fun _ => fun
  | [d1, d2, d3] => { results := [.lit (.bool true)], args := [d1, d2, d3] }
  | _ => none }
def sphereCrossesRow : OpenClaim := { program := "ytgcmmfclnialfaa", sum := "2bc38b1073327ce0d02d53dda309765c676798b1668b4fc121e91e0ad57f153a", func := "flightdeck/flightdecklaw09.SphereCrosses", spec := "sphereCrosses", unfollowed := true, recurses := true, apart := false }
def SphereCrossesSaid : Prop := sphereCrossesRow.holds Try.pinned (OpenSpec.ofChange sphereCrossesSpec)

/-- ITS FALSE NEIGHBOUR: 'it returns false'. Refute it at one input. -/
def sphereCrossesWrong : ChangeSpec := { name := "sphereCrosses", fn := fun _ => fun
  | [d1, d2, d3] => { results := [.lit (.bool false)], args := [d1, d2, d3] }
  | _ => none }
def SphereCrossesWrongFalsely : Prop := sphereCrossesRow.holds Try.pinned (OpenSpec.ofChange sphereCrossesWrong)

/-- 'flightdecklaw09.SphereTracks': WHATEVER THE INPUT: true; the input reads as it did. -/
def sphereTracksSpec : ChangeSpec := { name := "sphereTracks", fn := fun _ => fun
  | [d1, d2, d3] => { results := [.lit (.bool true)], args := [d1, d2, d3] }
  | _ => none }
def sphereTracksRow : OpenClaim := { program := "ytgcmmfclnialfaa", sum := "2bc38b1073327ce0d02d53dda309765c676798b1668b4fc121e91e0ad57f153a", func := "flightdeck/flightdecklaw09.SphereTracks", spec := "sphereTracks", unfollowed := true, recurses := true, apart := false }
def SphereTracksSaid : Prop := sphereTracksRow.holds Try.pinned (OpenSpec.ofChange sphereTracksSpec)

/-- ITS FALSE NEIGHBOUR: 'it returns false'. Refute it at one input. -/
def sphereTracksWrong : ChangeSpec := { name := "sphereTracks", fn := fun _ => fun
  | [d1, d2, d3] => { results := [.lit (.bool false)], args := [d1, d2, d3] }
  | _ => none }
def SphereTracksWrongFalsely : Prop := sphereTracksRow.holds Try.pinned (OpenSpec.ofChange sphereTracksWrong)

/-- 'flightdecklaw09.SphereMids': WHATEVER THE INPUT: true; the input reads as it did. -/
def sphereMidsSpec : ChangeSpec := { name := "sphereMids", fn := fun _ => fun
  | [d1, d2] => { results := [.lit (.bool true)], args := [d1, d2] }
  | _ => none }
def sphereMidsRow : OpenClaim := { program := "ytgcmmfclnialfaa", sum := "2bc38b1073327ce0d02d53dda309765c676798b1668b4fc121e91e0ad57f153a", func := "flightdeck/flightdecklaw09.SphereMids", spec := "sphereMids", unfollowed := true, recurses := true, apart := false }
def SphereMidsSaid : Prop := sphereMidsRow.holds Try.pinned (OpenSpec.ofChange sphereMidsSpec)

/-- ITS FALSE NEIGHBOUR: 'it returns false'. Refute it at one input. -/
def sphereMidsWrong : ChangeSpec := { name := "sphereMids", fn := fun _ => fun
  | [d1, d2] => { results := [.lit (.bool false)], args := [d1, d2] }
  | _ => none }
def SphereMidsWrongFalsely : Prop := sphereMidsRow.holds Try.pinned (OpenSpec.ofChange sphereMidsWrong)

/- THE SECOND FORM. 'bulk': how many values and letters a reading holds, each counted each time it is reached (what is shared counts as often as it is met; a slice's spare places count too). A statement '..UptoSaid' is the law's where the arguments, and the package variables that the reading takes, are together of bulk at most 1048576: NARROWER than '..Said'. Prove '..Said' where nothing that the law and all that it calls make is longer than what came in: it says more and counts as full. Else prove '..UptoSaid'. A law counts once. -/
mutual
def uptoBulk {H : Type} : DataW H → Nat
  | .lit (.string bytes) => bytes.length + 1
  | .lit _ => 1
  | .nil => 1
  | .ptr d => uptoBulk d + 1
  | .slice elems spare => uptoBulkAll elems + uptoBulkAll spare + 1
  | .agg parts => uptoBulkAll parts + 1
  | .iface _ d => uptoBulk d + 1
  | .map entries => uptoBulkEntries entries + 1
  | .held _ => 1
def uptoBulkAll {H : Type} : List (DataW H) → Nat
  | [] => 0
  | d :: r => uptoBulk d + uptoBulkAll r
def uptoBulkEntries {H : Type} : List (Lit × DataW H) → Nat
  | [] => 0
  | x :: r => uptoBulkEntry x + uptoBulkEntries r
def uptoBulkEntry {H : Type} : Lit × DataW H → Nat
  | (.string bytes, d) => bytes.length + uptoBulk d + 1
  | (_, d) => uptoBulk d + 1
 end
def uptoSmall : (H : Type) → List (DataW H) → Bool := fun _ ds => decide (uptoBulkAll ds ≤ 1048576)
def OpenSpec.upto (s : _root_.Go.ChangeSpec) : _root_.Go.OpenSpec := { _root_.Go.OpenSpec.ofChange s with cond := some uptoSmall }

/-- 'flightdecklaw09.SphereVectors', WHERE WHAT IT READS IS OF BULK AT MOST 1048576: true; the input reads as it did. -/
def sphereVectorsUptoRow : OpenClaim := { program := "ytgcmmfclnialfaa", sum := "2bc38b1073327ce0d02d53dda309765c676798b1668b4fc121e91e0ad57f153a", func := "flightdeck/flightdecklaw09.SphereVectors", spec := "sphereVectors", unfollowed := true, recurses := true, apart := false, narrowed := true }
def SphereVectorsUptoSaid : Prop := sphereVectorsUptoRow.holds Try.pinned (OpenSpec.upto sphereVectorsSpec)

/-- 'flightdecklaw09.SpherePositions', WHERE WHAT IT READS IS OF BULK AT MOST 1048576: true; the input reads as it did. -/
def spherePositionsUptoRow : OpenClaim := { program := "ytgcmmfclnialfaa", sum := "2bc38b1073327ce0d02d53dda309765c676798b1668b4fc121e91e0ad57f153a", func := "flightdeck/flightdecklaw09.SpherePositions", spec := "spherePositions", unfollowed := true, recurses := true, apart := false, narrowed := true }
def SpherePositionsUptoSaid : Prop := spherePositionsUptoRow.holds Try.pinned (OpenSpec.upto spherePositionsSpec)

/-- 'flightdecklaw09.SphereDists', WHERE WHAT IT READS IS OF BULK AT MOST 1048576: true; the input reads as it did. -/
def sphereDistsUptoRow : OpenClaim := { program := "ytgcmmfclnialfaa", sum := "2bc38b1073327ce0d02d53dda309765c676798b1668b4fc121e91e0ad57f153a", func := "flightdeck/flightdecklaw09.SphereDists", spec := "sphereDists", unfollowed := true, recurses := true, apart := false, narrowed := true }
def SphereDistsUptoSaid : Prop := sphereDistsUptoRow.holds Try.pinned (OpenSpec.upto sphereDistsSpec)

/-- 'flightdecklaw09.SphereMetric', WHERE WHAT IT READS IS OF BULK AT MOST 1048576: true; the input reads as it did. -/
def sphereMetricUptoRow : OpenClaim := { program := "ytgcmmfclnialfaa", sum := "2bc38b1073327ce0d02d53dda309765c676798b1668b4fc121e91e0ad57f153a", func := "flightdeck/flightdecklaw09.SphereMetric", spec := "sphereMetric", unfollowed := true, recurses := true, apart := false, narrowed := true }
def SphereMetricUptoSaid : Prop := sphereMetricUptoRow.holds Try.pinned (OpenSpec.upto sphereMetricSpec)

/-- 'flightdecklaw09.SphereCourses', WHERE WHAT IT READS IS OF BULK AT MOST 1048576: true; the input reads as it did. -/
def sphereCoursesUptoRow : OpenClaim := { program := "ytgcmmfclnialfaa", sum := "2bc38b1073327ce0d02d53dda309765c676798b1668b4fc121e91e0ad57f153a", func := "flightdeck/flightdecklaw09.SphereCourses", spec := "sphereCourses", unfollowed := true, recurses := true, apart := false, narrowed := true }
def SphereCoursesUptoSaid : Prop := sphereCoursesUptoRow.holds Try.pinned (OpenSpec.upto sphereCoursesSpec)

/-- 'flightdecklaw09.SphereAlongs', WHERE WHAT IT READS IS OF BULK AT MOST 1048576: true; the input reads as it did. -/
def sphereAlongsUptoRow : OpenClaim := { program := "ytgcmmfclnialfaa", sum := "2bc38b1073327ce0d02d53dda309765c676798b1668b4fc121e91e0ad57f153a", func := "flightdeck/flightdecklaw09.SphereAlongs", spec := "sphereAlongs", unfollowed := true, recurses := true, apart := false, narrowed := true }
def SphereAlongsUptoSaid : Prop := sphereAlongsUptoRow.holds Try.pinned (OpenSpec.upto sphereAlongsSpec)

/-- 'flightdecklaw09.SphereReaches', WHERE WHAT IT READS IS OF BULK AT MOST 1048576: true; the input reads as it did. -/
def sphereReachesUptoRow : OpenClaim := { program := "ytgcmmfclnialfaa", sum := "2bc38b1073327ce0d02d53dda309765c676798b1668b4fc121e91e0ad57f153a", func := "flightdeck/flightdecklaw09.SphereReaches", spec := "sphereReaches", unfollowed := true, recurses := true, apart := false, narrowed := true }
def SphereReachesUptoSaid : Prop := sphereReachesUptoRow.holds Try.pinned (OpenSpec.upto sphereReachesSpec)

/-- 'flightdecklaw09.SphereReturns', WHERE WHAT IT READS IS OF BULK AT MOST 1048576: true; the input reads as it did. -/
def sphereReturnsUptoRow : OpenClaim := { program := "ytgcmmfclnialfaa", sum := "2bc38b1073327ce0d02d53dda309765c676798b1668b4fc121e91e0ad57f153a", func := "flightdeck/flightdecklaw09.SphereReturns", spec := "sphereReturns", unfollowed := true, recurses := true, apart := false, narrowed := true }
def SphereReturnsUptoSaid : Prop := sphereReturnsUptoRow.holds Try.pinned (OpenSpec.upto sphereReturnsSpec)

/-- 'flightdecklaw09.SphereLocals', WHERE WHAT IT READS IS OF BULK AT MOST 1048576: true; the input reads as it did. -/
def sphereLocalsUptoRow : OpenClaim := { program := "ytgcmmfclnialfaa", sum := "2bc38b1073327ce0d02d53dda309765c676798b1668b4fc121e91e0ad57f153a", func := "flightdeck/flightdecklaw09.SphereLocals", spec := "sphereLocals", unfollowed := true, recurses := true, apart := false, narrowed := true }
def SphereLocalsUptoSaid : Prop := sphereLocalsUptoRow.holds Try.pinned (OpenSpec.upto sphereLocalsSpec)

/-- 'flightdecklaw09.SphereCrosses', WHERE WHAT IT READS IS OF BULK AT MOST 1048576: true; the input reads as it did. -/
def sphereCrossesUptoRow : OpenClaim := { program := "ytgcmmfclnialfaa", sum := "2bc38b1073327ce0d02d53dda309765c676798b1668b4fc121e91e0ad57f153a", func := "flightdeck/flightdecklaw09.SphereCrosses", spec := "sphereCrosses", unfollowed := true, recurses := true, apart := false, narrowed := true }
def SphereCrossesUptoSaid : Prop := sphereCrossesUptoRow.holds Try.pinned (OpenSpec.upto sphereCrossesSpec)

/-- 'flightdecklaw09.SphereTracks', WHERE WHAT IT READS IS OF BULK AT MOST 1048576: true; the input reads as it did. -/
def sphereTracksUptoRow : OpenClaim := { program := "ytgcmmfclnialfaa", sum := "2bc38b1073327ce0d02d53dda309765c676798b1668b4fc121e91e0ad57f153a", func := "flightdeck/flightdecklaw09.SphereTracks", spec := "sphereTracks", unfollowed := true, recurses := true, apart := false, narrowed := true }
def SphereTracksUptoSaid : Prop := sphereTracksUptoRow.holds Try.pinned (OpenSpec.upto sphereTracksSpec)

/-- 'flightdecklaw09.SphereMids', WHERE WHAT IT READS IS OF BULK AT MOST 1048576: true; the input reads as it did. -/
def sphereMidsUptoRow : OpenClaim := { program := "ytgcmmfclnialfaa", sum := "2bc38b1073327ce0d02d53dda309765c676798b1668b4fc121e91e0ad57f153a", func := "flightdeck/flightdecklaw09.SphereMids", spec := "sphereMids", unfollowed := true, recurses := true, apart := false, narrowed := true }
def SphereMidsUptoSaid : Prop := sphereMidsUptoRow.holds Try.pinned (OpenSpec.upto sphereMidsSpec)

end Rows
end Go.Proofs.Ytgcmmfclnialfaa
