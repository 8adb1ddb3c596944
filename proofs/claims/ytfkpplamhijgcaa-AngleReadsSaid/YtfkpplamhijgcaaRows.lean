/-
  No cell of these rows narrows 'for every input' (looked for: loops, veiled, ifaces, maps, wideKeys, modest, calm, conditions, laid).
  DERIVED. THE GIVEN ROWS OF THIS SEAT. 9 by the template 'for every input the law returns true; each argument reads behind the call as it read before'; 0 by the template 'total and deterministic' (their statements: YtfkpplamhijgcaaTotals.lean).
  GIVEN WITH THE SEED: the statements are not yours to turn. If you find one false, say at which input.
  Laid BY PROGRAM, IN A SANDBOX (cutbox-rows.mjs): the forced cells as the released guide's own fill.sh prints them over the translation 71d284c53f42f8b0… (all of the seat's roots in one cut). By AI agents, Wed Nov 11 2026. No macro, syntax, notation, axiom, sorry.
-/
import Derived.Test.YtfkpplamhijgcaaChecked
import GoSem.Claim
import GoSem.ClaimJoined
import GoSem.ClaimMapViews
import Derived.JoinedTies
import Derived.KernelRfl
namespace Go.Proofs.Ytfkpplamhijgcaa
/- THE CELL 'sum', in the pinned program and in every row, IS THE sha256 OF THE DUMP (.gsa) THAT YtfkpplamhijgcaaProg.lean LOADS. Nothing in Lean hashes anything: it is a label: what it is worth is what the hold of that sum in a sandbox is worth. -/
noncomputable def Try.pinned : Pinned := { name := "ytfkpplamhijgcaa", sum := "71d284c53f42f8b0737f923f0dadf4ad20a157735e16245fb03f23188e42c76d", checked := Try.checked }
namespace Rows
def none {H : Type} : Left H := { results := [], args := [] }

/-- 'flightdecklaw04.AngleTriangle': WHATEVER THE INPUT: true; the input reads as it did. -/
def angleTriangleSpec : ChangeSpec := { name := "angleTriangle", fn := fun _ => fun
  | [d1, d2, d3] => { results := [.lit (.bool true)], args := [d1, d2, d3] }
  | _ => none }
def angleTriangleRow : OpenClaim := { program := "ytfkpplamhijgcaa", sum := "71d284c53f42f8b0737f923f0dadf4ad20a157735e16245fb03f23188e42c76d", func := "flightdeck/flightdecklaw04.AngleTriangle", spec := "angleTriangle", apart := false }
def AngleTriangleSaid : Prop := angleTriangleRow.holds Try.pinned (OpenSpec.ofChange angleTriangleSpec)

/-- ITS FALSE NEIGHBOUR: 'it returns false'. Refute it at one input. -/
def angleTriangleWrong : ChangeSpec := { name := "angleTriangle", fn := fun _ => fun
  | [d1, d2, d3] => { results := [.lit (.bool false)], args := [d1, d2, d3] }
  | _ => none }
def AngleTriangleWrongFalsely : Prop := angleTriangleRow.holds Try.pinned (OpenSpec.ofChange angleTriangleWrong)

/-- 'flightdecklaw04.AngleNorms': WHATEVER THE INPUT: true; the input reads as it did. -/
def angleNormsSpec : ChangeSpec := { name := "angleNorms", fn := fun _ => fun
  | [d1, d2] => { results := [.lit (.bool true)], args := [d1, d2] }
  | _ => none }
def angleNormsRow : OpenClaim := { program := "ytfkpplamhijgcaa", sum := "71d284c53f42f8b0737f923f0dadf4ad20a157735e16245fb03f23188e42c76d", func := "flightdeck/flightdecklaw04.AngleNorms", spec := "angleNorms", apart := false }
def AngleNormsSaid : Prop := angleNormsRow.holds Try.pinned (OpenSpec.ofChange angleNormsSpec)

/-- ITS FALSE NEIGHBOUR: 'it returns false'. Refute it at one input. -/
def angleNormsWrong : ChangeSpec := { name := "angleNorms", fn := fun _ => fun
  | [d1, d2] => { results := [.lit (.bool false)], args := [d1, d2] }
  | _ => none }
def AngleNormsWrongFalsely : Prop := angleNormsRow.holds Try.pinned (OpenSpec.ofChange angleNormsWrong)

/-- 'flightdecklaw04.AngleDiffs': WHATEVER THE INPUT: true; the input reads as it did. -/
def angleDiffsSpec : ChangeSpec := { name := "angleDiffs", fn := fun _ => fun
  | [d1, d2] => { results := [.lit (.bool true)], args := [d1, d2] }
  | _ => none }
def angleDiffsRow : OpenClaim := { program := "ytfkpplamhijgcaa", sum := "71d284c53f42f8b0737f923f0dadf4ad20a157735e16245fb03f23188e42c76d", func := "flightdeck/flightdecklaw04.AngleDiffs", spec := "angleDiffs", apart := false }
def AngleDiffsSaid : Prop := angleDiffsRow.holds Try.pinned (OpenSpec.ofChange angleDiffsSpec)

/-- ITS FALSE NEIGHBOUR: 'it returns false'. Refute it at one input. -/
def angleDiffsWrong : ChangeSpec := { name := "angleDiffs", fn := fun _ => fun
  | [d1, d2] => { results := [.lit (.bool false)], args := [d1, d2] }
  | _ => none }
def AngleDiffsWrongFalsely : Prop := angleDiffsRow.holds Try.pinned (OpenSpec.ofChange angleDiffsWrong)

/-- 'flightdecklaw04.AngleSweeps': WHATEVER THE INPUT: true; the input reads as it did. -/
def angleSweepsSpec : ChangeSpec := { name := "angleSweeps", fn := fun _ => fun
  | [d1, d2, d3] => { results := [.lit (.bool true)], args := [d1, d2, d3] }
  | _ => none }
def angleSweepsRow : OpenClaim := { program := "ytfkpplamhijgcaa", sum := "71d284c53f42f8b0737f923f0dadf4ad20a157735e16245fb03f23188e42c76d", func := "flightdeck/flightdecklaw04.AngleSweeps", spec := "angleSweeps", apart := false }
def AngleSweepsSaid : Prop := angleSweepsRow.holds Try.pinned (OpenSpec.ofChange angleSweepsSpec)

/-- ITS FALSE NEIGHBOUR: 'it returns false'. Refute it at one input. -/
def angleSweepsWrong : ChangeSpec := { name := "angleSweeps", fn := fun _ => fun
  | [d1, d2, d3] => { results := [.lit (.bool false)], args := [d1, d2, d3] }
  | _ => none }
def AngleSweepsWrongFalsely : Prop := angleSweepsRow.holds Try.pinned (OpenSpec.ofChange angleSweepsWrong)

/-- 'flightdecklaw04.AngleSectors': WHATEVER THE INPUT: true; the input reads as it did. -/
def angleSectorsSpec : ChangeSpec := { name := "angleSectors", fn := fun _ => fun
  | [d1, d2, d3] => { results := [.lit (.bool true)], args := [d1, d2, d3] }
  | _ => none }
def angleSectorsRow : OpenClaim := { program := "ytfkpplamhijgcaa", sum := "71d284c53f42f8b0737f923f0dadf4ad20a157735e16245fb03f23188e42c76d", func := "flightdeck/flightdecklaw04.AngleSectors", spec := "angleSectors", apart := false }
def AngleSectorsSaid : Prop := angleSectorsRow.holds Try.pinned (OpenSpec.ofChange angleSectorsSpec)

/-- ITS FALSE NEIGHBOUR: 'it returns false'. Refute it at one input. -/
def angleSectorsWrong : ChangeSpec := { name := "angleSectors", fn := fun _ => fun
  | [d1, d2, d3] => { results := [.lit (.bool false)], args := [d1, d2, d3] }
  | _ => none }
def AngleSectorsWrongFalsely : Prop := angleSectorsRow.holds Try.pinned (OpenSpec.ofChange angleSectorsWrong)

/-- 'flightdecklaw04.AngleCourses': WHATEVER THE INPUT: true; the input reads as it did. -/
def angleCoursesSpec : ChangeSpec := { name := "angleCourses", fn := fun _ => fun
  | [d] => { results := [.lit (.bool true)], args := [d] }
  | _ => none }
def angleCoursesRow : OpenClaim := { program := "ytfkpplamhijgcaa", sum := "71d284c53f42f8b0737f923f0dadf4ad20a157735e16245fb03f23188e42c76d", func := "flightdeck/flightdecklaw04.AngleCourses", spec := "angleCourses", apart := false }
def AngleCoursesSaid : Prop := angleCoursesRow.holds Try.pinned (OpenSpec.ofChange angleCoursesSpec)

/-- ITS FALSE NEIGHBOUR: 'it returns false'. Refute it at one input. -/
def angleCoursesWrong : ChangeSpec := { name := "angleCourses", fn := fun _ => fun
  | [d] => { results := [.lit (.bool false)], args := [d] }
  | _ => none }
def AngleCoursesWrongFalsely : Prop := angleCoursesRow.holds Try.pinned (OpenSpec.ofChange angleCoursesWrong)

/-- 'flightdecklaw04.AngleReads': WHATEVER THE INPUT: true; the input reads as it did. -/
def angleReadsSpec : ChangeSpec := { name := "angleReads", fn := fun _ => fun
  | [d] => { results := [.lit (.bool true)], args := [d] }
  | _ => none }
def angleReadsRow : OpenClaim := { program := "ytfkpplamhijgcaa", sum := "71d284c53f42f8b0737f923f0dadf4ad20a157735e16245fb03f23188e42c76d", func := "flightdeck/flightdecklaw04.AngleReads", spec := "angleReads", apart := false }
def AngleReadsSaid : Prop := angleReadsRow.holds Try.pinned (OpenSpec.ofChange angleReadsSpec)

/-- ITS FALSE NEIGHBOUR: 'it returns false'. Refute it at one input. -/
def angleReadsWrong : ChangeSpec := { name := "angleReads", fn := fun _ => fun
  | [d] => { results := [.lit (.bool false)], args := [d] }
  | _ => none }
def AngleReadsWrongFalsely : Prop := angleReadsRow.holds Try.pinned (OpenSpec.ofChange angleReadsWrong)

/-- 'flightdecklaw04.AnglePositions': WHATEVER THE INPUT: true; the input reads as it did. -/
def anglePositionsSpec : ChangeSpec := { name := "anglePositions", fn := fun _ => fun
  | [d] => { results := [.lit (.bool true)], args := [d] }
  | _ => none }
def anglePositionsRow : OpenClaim := { program := "ytfkpplamhijgcaa", sum := "71d284c53f42f8b0737f923f0dadf4ad20a157735e16245fb03f23188e42c76d", func := "flightdeck/flightdecklaw04.AnglePositions", spec := "anglePositions", apart := false }
def AnglePositionsSaid : Prop := anglePositionsRow.holds Try.pinned (OpenSpec.ofChange anglePositionsSpec)

/-- ITS FALSE NEIGHBOUR: 'it returns false'. Refute it at one input. -/
def anglePositionsWrong : ChangeSpec := { name := "anglePositions", fn := fun _ => fun
  | [d] => { results := [.lit (.bool false)], args := [d] }
  | _ => none }
def AnglePositionsWrongFalsely : Prop := anglePositionsRow.holds Try.pinned (OpenSpec.ofChange anglePositionsWrong)

/-- 'flightdecklaw04.AngleParses': WHATEVER THE INPUT: true; the input reads as it did. -/
def angleParsesSpec : ChangeSpec := { name := "angleParses", fn := fun _ => fun
  | [d] => { results := [.lit (.bool true)], args := [d] }
  | _ => none }
def angleParsesRow : OpenClaim := { program := "ytfkpplamhijgcaa", sum := "71d284c53f42f8b0737f923f0dadf4ad20a157735e16245fb03f23188e42c76d", func := "flightdeck/flightdecklaw04.AngleParses", spec := "angleParses", apart := false }
def AngleParsesSaid : Prop := angleParsesRow.holds Try.pinned (OpenSpec.ofChange angleParsesSpec)

/-- ITS FALSE NEIGHBOUR: 'it returns false'. Refute it at one input. -/
def angleParsesWrong : ChangeSpec := { name := "angleParses", fn := fun _ => fun
  | [d] => { results := [.lit (.bool false)], args := [d] }
  | _ => none }
def AngleParsesWrongFalsely : Prop := angleParsesRow.holds Try.pinned (OpenSpec.ofChange angleParsesWrong)

/- THE SECOND FORM. 'bulk': how many values and letters a reading holds, each counted each time it is reached (what is shared counts as often as it is met; a slice's spare places count too). A statement '..UptoSaid' is the law's where the arguments, and the package variables that the reading takes, are together of bulk at most 1048576: NARROWER than '..Said'. Prove '..Said' where nothing that the law and all that it calls make is longer than what came in: it says more and counts as full. Else prove '..UptoSaid'. A law counts once. -/
mutual
def uptoBulk {H : Type} : DataW H → Nat
  | .lit (.string bytes) => bytes.length + 1
  | .lit _ => 1
  | .nil => 1
  | .ptr d => uptoBulk d + 1
  | .slice elems spare => uptoBulkAll elems + uptoBulkAll spare + 1
  | .agg parts => uptoBulkAll parts + 1
  | .iface _ d => uptoBulk d + 1
  | .map entries => uptoBulkEntries entries + 1
  | .held _ => 1
def uptoBulkAll {H : Type} : List (DataW H) → Nat
  | [] => 0
  | d :: r => uptoBulk d + uptoBulkAll r
def uptoBulkEntries {H : Type} : List (Lit × DataW H) → Nat
  | [] => 0
  | x :: r => uptoBulkEntry x + uptoBulkEntries r
def uptoBulkEntry {H : Type} : Lit × DataW H → Nat
  | (.string bytes, d) => bytes.length + uptoBulk d + 1
  | (_, d) => uptoBulk d + 1
 end
def uptoSmall : (H : Type) → List (DataW H) → Bool := fun _ ds => decide (uptoBulkAll ds ≤ 1048576)
def OpenSpec.upto (s : _root_.Go.ChangeSpec) : _root_.Go.OpenSpec := { _root_.Go.OpenSpec.ofChange s with cond := some uptoSmall }

/-- 'flightdecklaw04.AngleTriangle', WHERE WHAT IT READS IS OF BULK AT MOST 1048576: true; the input reads as it did. -/
def angleTriangleUptoRow : OpenClaim := { program := "ytfkpplamhijgcaa", sum := "71d284c53f42f8b0737f923f0dadf4ad20a157735e16245fb03f23188e42c76d", func := "flightdeck/flightdecklaw04.AngleTriangle", spec := "angleTriangle", apart := false, narrowed := true }
def AngleTriangleUptoSaid : Prop := angleTriangleUptoRow.holds Try.pinned (OpenSpec.upto angleTriangleSpec)

/-- 'flightdecklaw04.AngleNorms', WHERE WHAT IT READS IS OF BULK AT MOST 1048576: true; the input reads as it did. -/
def angleNormsUptoRow : OpenClaim := { program := "ytfkpplamhijgcaa", sum := "71d284c53f42f8b0737f923f0dadf4ad20a157735e16245fb03f23188e42c76d", func := "flightdeck/flightdecklaw04.AngleNorms", spec := "angleNorms", apart := false, narrowed := true }
def AngleNormsUptoSaid : Prop := angleNormsUptoRow.holds Try.pinned (OpenSpec.upto angleNormsSpec)

/-- 'flightdecklaw04.AngleDiffs', WHERE WHAT IT READS IS OF BULK AT MOST 1048576: true; the input reads as it did. -/
def angleDiffsUptoRow : OpenClaim := { program := "ytfkpplamhijgcaa", sum := "71d284c53f42f8b0737f923f0dadf4ad20a157735e16245fb03f23188e42c76d", func := "flightdeck/flightdecklaw04.AngleDiffs", spec := "angleDiffs", apart := false, narrowed := true }
def AngleDiffsUptoSaid : Prop := angleDiffsUptoRow.holds Try.pinned (OpenSpec.upto angleDiffsSpec)

/-- 'flightdecklaw04.AngleSweeps', WHERE WHAT IT READS IS OF BULK AT MOST 1048576: true; the input reads as it did. -/
def angleSweepsUptoRow : OpenClaim := { program := "ytfkpplamhijgcaa", sum := "71d284c53f42f8b0737f923f0dadf4ad20a157735e16245fb03f23188e42c76d", func := "flightdeck/flightdecklaw04.AngleSweeps", spec := "angleSweeps", apart := false, narrowed := true }
def AngleSweepsUptoSaid : Prop := angleSweepsUptoRow.holds Try.pinned (OpenSpec.upto angleSweepsSpec)

/-- 'flightdecklaw04.AngleSectors', WHERE WHAT IT READS IS OF BULK AT MOST 1048576: true; the input reads as it did. -/
def angleSectorsUptoRow : OpenClaim := { program := "ytfkpplamhijgcaa", sum := "71d284c53f42f8b0737f923f0dadf4ad20a157735e16245fb03f23188e42c76d", func := "flightdeck/flightdecklaw04.AngleSectors", spec := "angleSectors", apart := false, narrowed := true }
def AngleSectorsUptoSaid : Prop := angleSectorsUptoRow.holds Try.pinned (OpenSpec.upto angleSectorsSpec)

/-- 'flightdecklaw04.AngleCourses', WHERE WHAT IT READS IS OF BULK AT MOST 1048576: true; the input reads as it did. -/
def angleCoursesUptoRow : OpenClaim := { program := "ytfkpplamhijgcaa", sum := "71d284c53f42f8b0737f923f0dadf4ad20a157735e16245fb03f23188e42c76d", func := "flightdeck/flightdecklaw04.AngleCourses", spec := "angleCourses", apart := false, narrowed := true }
def AngleCoursesUptoSaid : Prop := angleCoursesUptoRow.holds Try.pinned (OpenSpec.upto angleCoursesSpec)

/-- 'flightdecklaw04.AngleReads', WHERE WHAT IT READS IS OF BULK AT MOST 1048576: true; the input reads as it did. -/
def angleReadsUptoRow : OpenClaim := { program := "ytfkpplamhijgcaa", sum := "71d284c53f42f8b0737f923f0dadf4ad20a157735e16245fb03f23188e42c76d", func := "flightdeck/flightdecklaw04.AngleReads", spec := "angleReads", apart := false, narrowed := true }
def AngleReadsUptoSaid : Prop := angleReadsUptoRow.holds Try.pinned (OpenSpec.upto angleReadsSpec)

/-- 'flightdecklaw04.AnglePositions', WHERE WHAT IT READS IS OF BULK AT MOST 1048576: true; the input reads as it did. -/
def anglePositionsUptoRow : OpenClaim := { program := "ytfkpplamhijgcaa", sum := "71d284c53f42f8b0737f923f0dadf4ad20a157735e16245fb03f23188e42c76d", func := "flightdeck/flightdecklaw04.AnglePositions", spec := "anglePositions", apart := false, narrowed := true }
def AnglePositionsUptoSaid : Prop := anglePositionsUptoRow.holds Try.pinned (OpenSpec.upto anglePositionsSpec)

/-- 'flightdecklaw04.AngleParses', WHERE WHAT IT READS IS OF BULK AT MOST 1048576: true; the input reads as it did. -/
def angleParsesUptoRow : OpenClaim := { program := "ytfkpplamhijgcaa", sum := "71d284c53f42f8b0737f923f0dadf4ad20a157735e16245fb03f23188e42c76d", func := "flightdeck/flightdecklaw04.AngleParses", spec := "angleParses", apart := false, narrowed := true }
def AngleParsesUptoSaid : Prop := angleParsesUptoRow.holds Try.pinned (OpenSpec.upto angleParsesSpec)

end Rows
end Go.Proofs.Ytfkpplamhijgcaa
