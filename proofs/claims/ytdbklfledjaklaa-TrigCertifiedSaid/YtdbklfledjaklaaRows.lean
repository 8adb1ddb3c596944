/-
  No cell of these rows narrows 'for every input' (looked for: loops, veiled, ifaces, maps, wideKeys, modest, calm, conditions, laid).
  DERIVED. THE GIVEN ROWS OF THIS SEAT. 9 by the template 'for every input the law returns true; each argument reads behind the call as it read before'; 0 by the template 'total and deterministic' (their statements: YtdbklfledjaklaaTotals.lean).
  GIVEN WITH THE SEED: the statements are not yours to turn. If you find one false, say at which input.
  Laid BY PROGRAM, IN A SANDBOX (cutbox-rows.mjs): the forced cells as the released guide's own fill.sh prints them over the translation cb8ec835b9049a02… (all of the seat's roots in one cut). By AI agents, Wed Nov 11 2026. No macro, syntax, notation, axiom, sorry.
-/
import Derived.Test.YtdbklfledjaklaaChecked
import GoSem.Claim
import GoSem.ClaimJoined
import GoSem.ClaimMapViews
import Derived.JoinedTies
import Derived.KernelRfl
namespace Go.Proofs.Ytdbklfledjaklaa
/- THE CELL 'sum', in the pinned program and in every row, IS THE sha256 OF THE DUMP (.gsa) THAT YtdbklfledjaklaaProg.lean LOADS. Nothing in Lean hashes anything: it is a label: what it is worth is what the hold of that sum in a sandbox is worth. -/
noncomputable def Try.pinned : Pinned := { name := "ytdbklfledjaklaa", sum := "cb8ec835b9049a02f3f743c61dbf8e01026113d695f788a195726f362e7d0939", checked := Try.checked }
namespace Rows
def none {H : Type} : Left H := { results := [], args := [] }

/-- 'flightdecklaw07.TrigValues': WHATEVER THE INPUT: true; the input reads as it did. -/
def trigValuesSpec : ChangeSpec := { name := "trigValues", fn := fun _ => fun
  | [d] => { results := [.lit (.bool true)], args := [d] }
  | _ => none }
def trigValuesRow : OpenClaim := { program := "ytdbklfledjaklaa", sum := "cb8ec835b9049a02f3f743c61dbf8e01026113d695f788a195726f362e7d0939", func := "flightdeck/flightdecklaw07.TrigValues", spec := "trigValues", unfollowed := true, recurses := true, apart := false }
def TrigValuesSaid : Prop := trigValuesRow.holds Try.pinned (OpenSpec.ofChange trigValuesSpec)

/-- ITS FALSE NEIGHBOUR: 'it returns false'. Refute it at one input. -/
def trigValuesWrong : ChangeSpec := { name := "trigValues", fn := fun _ => fun
  | [d] => { results := [.lit (.bool false)], args := [d] }
  | _ => none }
def TrigValuesWrongFalsely : Prop := trigValuesRow.holds Try.pinned (OpenSpec.ofChange trigValuesWrong)

/-- 'flightdecklaw07.TrigCertified': WHATEVER THE INPUT: true; the input reads as it did. -/
def trigCertifiedSpec : ChangeSpec := { name := "trigCertified", fn := fun _ => fun
  | [d] => { results := [.lit (.bool true)], args := [d] }
  | _ => none }
def trigCertifiedRow : OpenClaim := { program := "ytdbklfledjaklaa", sum := "cb8ec835b9049a02f3f743c61dbf8e01026113d695f788a195726f362e7d0939", func := "flightdeck/flightdecklaw07.TrigCertified", spec := "trigCertified", unfollowed := true, recurses := true, apart := false }
def TrigCertifiedSaid : Prop := trigCertifiedRow.holds Try.pinned (OpenSpec.ofChange trigCertifiedSpec)

/-- ITS FALSE NEIGHBOUR: 'it returns false'. Refute it at one input. -/
def trigCertifiedWrong : ChangeSpec := { name := "trigCertified", fn := fun _ => fun
  | [d] => { results := [.lit (.bool false)], args := [d] }
  | _ => none }
def TrigCertifiedWrongFalsely : Prop := trigCertifiedRow.holds Try.pinned (OpenSpec.ofChange trigCertifiedWrong)

/-- 'flightdecklaw07.TrigSymmetric': WHATEVER THE INPUT: true; the input reads as it did. -/
def trigSymmetricSpec : ChangeSpec := { name := "trigSymmetric", fn := fun _ => fun
  | [d] => { results := [.lit (.bool true)], args := [d] }
  | _ => none }
def trigSymmetricRow : OpenClaim := { program := "ytdbklfledjaklaa", sum := "cb8ec835b9049a02f3f743c61dbf8e01026113d695f788a195726f362e7d0939", func := "flightdeck/flightdecklaw07.TrigSymmetric", spec := "trigSymmetric", unfollowed := true, recurses := true, apart := false }
def TrigSymmetricSaid : Prop := trigSymmetricRow.holds Try.pinned (OpenSpec.ofChange trigSymmetricSpec)

/-- ITS FALSE NEIGHBOUR: 'it returns false'. Refute it at one input. -/
def trigSymmetricWrong : ChangeSpec := { name := "trigSymmetric", fn := fun _ => fun
  | [d] => { results := [.lit (.bool false)], args := [d] }
  | _ => none }
def TrigSymmetricWrongFalsely : Prop := trigSymmetricRow.holds Try.pinned (OpenSpec.ofChange trigSymmetricWrong)

/-- 'flightdecklaw07.TrigSquares': WHATEVER THE INPUT: true; the input reads as it did. -/
def trigSquaresSpec : ChangeSpec := { name := "trigSquares", fn := fun _ => fun
  | [d] => { results := [.lit (.bool true)], args := [d] }
  | _ => none }
def trigSquaresRow : OpenClaim := { program := "ytdbklfledjaklaa", sum := "cb8ec835b9049a02f3f743c61dbf8e01026113d695f788a195726f362e7d0939", func := "flightdeck/flightdecklaw07.TrigSquares", spec := "trigSquares", unfollowed := true, recurses := true, apart := false }
def TrigSquaresSaid : Prop := trigSquaresRow.holds Try.pinned (OpenSpec.ofChange trigSquaresSpec)

/-- ITS FALSE NEIGHBOUR: 'it returns false'. Refute it at one input. -/
def trigSquaresWrong : ChangeSpec := { name := "trigSquares", fn := fun _ => fun
  | [d] => { results := [.lit (.bool false)], args := [d] }
  | _ => none }
def TrigSquaresWrongFalsely : Prop := trigSquaresRow.holds Try.pinned (OpenSpec.ofChange trigSquaresWrong)

/-- 'flightdecklaw07.TrigRises': WHATEVER THE INPUT: true; the input reads as it did. -/
def trigRisesSpec : ChangeSpec := { name := "trigRises", fn := fun _ => fun
  | [d1, d2] => { results := [.lit (.bool true)], args := [d1, d2] }
  | _ => none }
def trigRisesRow : OpenClaim := { program := "ytdbklfledjaklaa", sum := "cb8ec835b9049a02f3f743c61dbf8e01026113d695f788a195726f362e7d0939", func := "flightdeck/flightdecklaw07.TrigRises", spec := "trigRises", unfollowed := true, recurses := true, apart := false }
def TrigRisesSaid : Prop := trigRisesRow.holds Try.pinned (OpenSpec.ofChange trigRisesSpec)

/-- ITS FALSE NEIGHBOUR: 'it returns false'. Refute it at one input. -/
def trigRisesWrong : ChangeSpec := { name := "trigRises", fn := fun _ => fun
  | [d1, d2] => { results := [.lit (.bool false)], args := [d1, d2] }
  | _ => none }
def TrigRisesWrongFalsely : Prop := trigRisesRow.holds Try.pinned (OpenSpec.ofChange trigRisesWrong)

/-- 'flightdecklaw07.TrigArcs': WHATEVER THE INPUT: true; the input reads as it did. -/
def trigArcsSpec : ChangeSpec := { name := "trigArcs", fn := fun _ => fun
  | [d1, d2] => { results := [.lit (.bool true)], args := [d1, d2] }
  | _ => none }
def trigArcsRow : OpenClaim := { program := "ytdbklfledjaklaa", sum := "cb8ec835b9049a02f3f743c61dbf8e01026113d695f788a195726f362e7d0939", func := "flightdeck/flightdecklaw07.TrigArcs", spec := "trigArcs", unfollowed := true, recurses := true, apart := false }
def TrigArcsSaid : Prop := trigArcsRow.holds Try.pinned (OpenSpec.ofChange trigArcsSpec)

/-- ITS FALSE NEIGHBOUR: 'it returns false'. Refute it at one input. -/
def trigArcsWrong : ChangeSpec := { name := "trigArcs", fn := fun _ => fun
  | [d1, d2] => { results := [.lit (.bool false)], args := [d1, d2] }
  | _ => none }
def TrigArcsWrongFalsely : Prop := trigArcsRow.holds Try.pinned (OpenSpec.ofChange trigArcsWrong)

/-- 'flightdecklaw07.TrigInverse': WHATEVER THE INPUT: true; the input reads as it did. -/
def trigInverseSpec : ChangeSpec := { name := "trigInverse", fn := fun _ => fun
  | [d] => { results := [.lit (.bool true)], args := [d] }
  | _ => none }
def trigInverseRow : OpenClaim := { program := "ytdbklfledjaklaa", sum := "cb8ec835b9049a02f3f743c61dbf8e01026113d695f788a195726f362e7d0939", func := "flightdeck/flightdecklaw07.TrigInverse", spec := "trigInverse", unfollowed := true, recurses := true, apart := false }
def TrigInverseSaid : Prop := trigInverseRow.holds Try.pinned (OpenSpec.ofChange trigInverseSpec)

/-- ITS FALSE NEIGHBOUR: 'it returns false'. Refute it at one input. -/
def trigInverseWrong : ChangeSpec := { name := "trigInverse", fn := fun _ => fun
  | [d] => { results := [.lit (.bool false)], args := [d] }
  | _ => none }
def TrigInverseWrongFalsely : Prop := trigInverseRow.holds Try.pinned (OpenSpec.ofChange trigInverseWrong)

/-- 'flightdecklaw07.TrigQuadrants': WHATEVER THE INPUT: true; the input reads as it did. -/
def trigQuadrantsSpec : ChangeSpec := { name := "trigQuadrants", fn := fun _ => fun
  | [d1, d2] => { results := [.lit (.bool true)], args := [d1, d2] }
  | _ => none }
def trigQuadrantsRow : OpenClaim := { program := "ytdbklfledjaklaa", sum := "cb8ec835b9049a02f3f743c61dbf8e01026113d695f788a195726f362e7d0939", func := "flightdeck/flightdecklaw07.TrigQuadrants", spec := "trigQuadrants", unfollowed := true, recurses := true, apart := false }
def TrigQuadrantsSaid : Prop := trigQuadrantsRow.holds Try.pinned (OpenSpec.ofChange trigQuadrantsSpec)

/-- ITS FALSE NEIGHBOUR: 'it returns false'. Refute it at one input. -/
def trigQuadrantsWrong : ChangeSpec := { name := "trigQuadrants", fn := fun _ => fun
  | [d1, d2] => { results := [.lit (.bool false)], args := [d1, d2] }
  | _ => none }
def TrigQuadrantsWrongFalsely : Prop := trigQuadrantsRow.holds Try.pinned (OpenSpec.ofChange trigQuadrantsWrong)

/-- 'flightdecklaw07.TrigIntervals': WHATEVER THE INPUT: true; the input reads as it did. -/
def trigIntervalsSpec : ChangeSpec := { name := "trigIntervals", fn := fun _ => fun
  | [d] => { results := [.lit (.bool true)], args := [d] }
  | _ => none }
def trigIntervalsRow : OpenClaim := { program := "ytdbklfledjaklaa", sum := "cb8ec835b9049a02f3f743c61dbf8e01026113d695f788a195726f362e7d0939", func := "flightdeck/flightdecklaw07.TrigIntervals", spec := "trigIntervals", unfollowed := true, recurses := true, apart := false }
def TrigIntervalsSaid : Prop := trigIntervalsRow.holds Try.pinned (OpenSpec.ofChange trigIntervalsSpec)

/-- ITS FALSE NEIGHBOUR: 'it returns false'. Refute it at one input. -/
def trigIntervalsWrong : ChangeSpec := { name := "trigIntervals", fn := fun _ => fun
  | [d] => { results := [.lit (.bool false)], args := [d] }
  | _ => none }
def TrigIntervalsWrongFalsely : Prop := trigIntervalsRow.holds Try.pinned (OpenSpec.ofChange trigIntervalsWrong)

/- THE SECOND FORM. 'bulk': how many values and letters a reading holds, each counted each time it is reached (what is shared counts as often as it is met; a slice's spare places count too). A statement '..UptoSaid' is the law's where the arguments, and the package variables that the reading takes, are together of bulk at most 1048576: NARROWER than '..Said'. Prove '..Said' where nothing that the law and all that it calls make is longer than what came in: it says more and counts as full. Else prove '..UptoSaid'. A law counts once. -/
mutual
def uptoBulk {H : Type} : DataW H → Nat
  | .lit (.string bytes) => bytes.length + 1
  | .lit _ => 1
  | .nil => 1
  | .ptr d => uptoBulk d + 1
  | .slice elems spare => uptoBulkAll elems + uptoBulkAll spare + 1
  | .agg parts => uptoBulkAll parts + 1
  | .iface _ d => uptoBulk d + 1
  | .map entries => uptoBulkEntries entries + 1
  | .held _ => 1
def uptoBulkAll {H : Type} : List (DataW H) → Nat
  | [] => 0
  | d :: r => uptoBulk d + uptoBulkAll r
def uptoBulkEntries {H : Type} : List (Lit × DataW H) → Nat
  | [] => 0
  | x :: r => uptoBulkEntry x + uptoBulkEntries r
def uptoBulkEntry {H : Type} : Lit × DataW H → Nat
  | (.string bytes, d) => bytes.length + uptoBulk d + 1
  | (_, d) => uptoBulk d + 1
 end
def uptoSmall : (H : Type) → List (DataW H) → Bool := fun _ ds => decide (uptoBulkAll ds ≤ 1048576)
def OpenSpec.upto (s : _root_.Go.ChangeSpec) : _root_.Go.OpenSpec := { _root_.Go.OpenSpec.ofChange s with cond := some uptoSmall }

/-- 'flightdecklaw07.TrigValues', WHERE WHAT IT READS IS OF BULK AT MOST 1048576: true; the input reads as it did. -/
def trigValuesUptoRow : OpenClaim := { program := "ytdbklfledjaklaa", sum := "cb8ec835b9049a02f3f743c61dbf8e01026113d695f788a195726f362e7d0939", func := "flightdeck/flightdecklaw07.TrigValues", spec := "trigValues", unfollowed := true, recurses := true, apart := false, narrowed := true }
def TrigValuesUptoSaid : Prop := trigValuesUptoRow.holds Try.pinned (OpenSpec.upto trigValuesSpec)

/-- 'flightdecklaw07.TrigCertified', WHERE WHAT IT READS IS OF BULK AT MOST 1048576: true; the input reads as it did. -/
def trigCertifiedUptoRow : OpenClaim := { program := "ytdbklfledjaklaa", sum := "cb8ec835b9049a02f3f743c61dbf8e01026113d695f788a195726f362e7d0939", func := "flightdeck/flightdecklaw07.TrigCertified", spec := "trigCertified", unfollowed := true, recurses := true, apart := false, narrowed := true }
def TrigCertifiedUptoSaid : Prop := trigCertifiedUptoRow.holds Try.pinned (OpenSpec.upto trigCertifiedSpec)

/-- 'flightdecklaw07.TrigSymmetric', WHERE WHAT IT READS IS OF BULK AT MOST 1048576: true; the input reads as it did. -/
def trigSymmetricUptoRow : OpenClaim := { program := "ytdbklfledjaklaa", sum := "cb8ec835b9049a02f3f743c61dbf8e01026113d695f788a195726f362e7d0939", func := "flightdeck/flightdecklaw07.TrigSymmetric", spec := "trigSymmetric", unfollowed := true, recurses := true, apart := false, narrowed := true }
def TrigSymmetricUptoSaid : Prop := trigSymmetricUptoRow.holds Try.pinned (OpenSpec.upto trigSymmetricSpec)

/-- 'flightdecklaw07.TrigSquares', WHERE WHAT IT READS IS OF BULK AT MOST 1048576: true; the input reads as it did. -/
def trigSquaresUptoRow : OpenClaim := { program := "ytdbklfledjaklaa", sum := "cb8ec835b9049a02f3f743c61dbf8e01026113d695f788a195726f362e7d0939", func := "flightdeck/flightdecklaw07.TrigSquares", spec := "trigSquares", unfollowed := true, recurses := true, apart := false, narrowed := true }
def TrigSquaresUptoSaid : Prop := trigSquaresUptoRow.holds Try.pinned (OpenSpec.upto trigSquaresSpec)

/-- 'flightdecklaw07.TrigRises', WHERE WHAT IT READS IS OF BULK AT MOST 1048576: true; the input reads as it did. -/
def trigRisesUptoRow : OpenClaim := { program := "ytdbklfledjaklaa", sum := "cb8ec835b9049a02f3f743c61dbf8e01026113d695f788a195726f362e7d0939", func := "flightdeck/flightdecklaw07.TrigRises", spec := "trigRises", unfollowed := true, recurses := true, apart := false, narrowed := true }
def TrigRisesUptoSaid : Prop := trigRisesUptoRow.holds Try.pinned (OpenSpec.upto trigRisesSpec)

/-- 'flightdecklaw07.TrigArcs', WHERE WHAT IT READS IS OF BULK AT MOST 1048576: true; the input reads as it did. -/
def trigArcsUptoRow : OpenClaim := { program := "ytdbklfledjaklaa", sum := "cb8ec835b9049a02f3f743c61dbf8e01026113d695f788a195726f362e7d0939", func := "flightdeck/flightdecklaw07.TrigArcs", spec := "trigArcs", unfollowed := true, recurses := true, apart := false, narrowed := true }
def TrigArcsUptoSaid : Prop := trigArcsUptoRow.holds Try.pinned (OpenSpec.upto trigArcsSpec)

/-- 'flightdecklaw07.TrigInverse', WHERE WHAT IT READS IS OF BULK AT MOST 1048576: true; the input reads as it did. -/
def trigInverseUptoRow : OpenClaim := { program := "ytdbklfledjaklaa", sum := "cb8ec835b9049a02f3f743c61dbf8e01026113d695f788a195726f362e7d0939", func := "flightdeck/flightdecklaw07.TrigInverse", spec := "trigInverse", unfollowed := true, recurses := true, apart := false, narrowed := true }
def TrigInverseUptoSaid : Prop := trigInverseUptoRow.holds Try.pinned (OpenSpec.upto trigInverseSpec)

/-- 'flightdecklaw07.TrigQuadrants', WHERE WHAT IT READS IS OF BULK AT MOST 1048576: true; the input reads as it did. -/
def trigQuadrantsUptoRow : OpenClaim := { program := "ytdbklfledjaklaa", sum := "cb8ec835b9049a02f3f743c61dbf8e01026113d695f788a195726f362e7d0939", func := "flightdeck/flightdecklaw07.TrigQuadrants", spec := "trigQuadrants", unfollowed := true, recurses := true, apart := false, narrowed := true }
def TrigQuadrantsUptoSaid : Prop := trigQuadrantsUptoRow.holds Try.pinned (OpenSpec.upto trigQuadrantsSpec)

/-- 'flightdecklaw07.TrigIntervals', WHERE WHAT IT READS IS OF BULK AT MOST 1048576: true; the input reads as it did. -/
def trigIntervalsUptoRow : OpenClaim := { program := "ytdbklfledjaklaa", sum := "cb8ec835b9049a02f3f743c61dbf8e01026113d695f788a195726f362e7d0939", func := "flightdeck/flightdecklaw07.TrigIntervals", spec := "trigIntervals", unfollowed := true, recurses := true, apart := false, narrowed := true }
def TrigIntervalsUptoSaid : Prop := trigIntervalsUptoRow.holds Try.pinned (OpenSpec.upto trigIntervalsSpec)

end Rows
end Go.Proofs.Ytdbklfledjaklaa
