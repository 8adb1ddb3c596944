/-
  No cell of these rows narrows 'for every input' (looked for: loops, veiled, ifaces, maps, wideKeys, modest, calm, conditions, laid).
  DERIVED. THE GIVEN ROWS OF THIS SEAT. 8 by the template 'for every input the law returns true; each argument reads behind the call as it read before'; 0 by the template 'total and deterministic' (their statements: YtmlacekgmdlfjaaTotals.lean).
  GIVEN WITH THE SEED: the statements are not yours to turn. If you find one false, say at which input.
  Laid BY PROGRAM, IN A SANDBOX (cutbox-rows.mjs): the forced cells as the released guide's own fill.sh prints them over the translation 585af412de03b8df… (all of the seat's roots in one cut). By AI agents, Wed Nov 11 2026. No macro, syntax, notation, axiom, sorry.
-/
import Derived.Test.YtmlacekgmdlfjaaChecked
import GoSem.Claim
import GoSem.ClaimJoined
import GoSem.ClaimMapViews
import Derived.JoinedTies
import Derived.KernelRfl
namespace Go.Proofs.Ytmlacekgmdlfjaa
/- THE CELL 'sum', in the pinned program and in every row, IS THE sha256 OF THE DUMP (.gsa) THAT YtmlacekgmdlfjaaProg.lean LOADS. Nothing in Lean hashes anything: it is a label: what it is worth is what the hold of that sum in a sandbox is worth. -/
noncomputable def Try.pinned : Pinned := { name := "ytmlacekgmdlfjaa", sum := "585af412de03b8dfd64d6083f24bab1b3f8366c9d1852c22f9cf39ac7ea4cd72", checked := Try.checked }
namespace Rows
def none {H : Type} : Left H := { results := [], args := [] }

/-- 'flightdecklaw10.PlaneReturns': WHATEVER THE INPUT: true; the input reads as it did. -/
def planeReturnsSpec : ChangeSpec := { name := "planeReturns", fn := fun _ => fun
  | [d1, d2] => { results := [.lit (.bool true)], args := [d1, d2] }
  | _ => none }
def planeReturnsRow : OpenClaim := { program := "ytmlacekgmdlfjaa", sum := "585af412de03b8dfd64d6083f24bab1b3f8366c9d1852c22f9cf39ac7ea4cd72", func := "flightdeck/flightdecklaw10.PlaneReturns", spec := "planeReturns", unfollowed := true, recurses := true, named := ["math/bits.divideError", "math/bits.overflowError"], apart := false }
def PlaneReturnsSaid : Prop := planeReturnsRow.holds Try.pinned (OpenSpec.ofChange planeReturnsSpec)

/-- ITS FALSE NEIGHBOUR: 'it returns false'. Refute it at one input. -/
def planeReturnsWrong : ChangeSpec := { name := "planeReturns", fn := fun _ => fun
  | [d1, d2] => { results := [.lit (.bool false)], args := [d1, d2] }
  | _ => none }
def PlaneReturnsWrongFalsely : Prop := planeReturnsRow.holds Try.pinned (OpenSpec.ofChange planeReturnsWrong)

/-- 'flightdecklaw10.PlaneBack': WHATEVER THE INPUT: true; the input reads as it did. -/
def planeBackSpec : ChangeSpec := { name := "planeBack", fn := fun _ => fun
  | [d1, d2] => { results := [.lit (.bool true)], args := [d1, d2] }
  | _ => none }
def planeBackRow : OpenClaim := { program := "ytmlacekgmdlfjaa", sum := "585af412de03b8dfd64d6083f24bab1b3f8366c9d1852c22f9cf39ac7ea4cd72", func := "flightdeck/flightdecklaw10.PlaneBack", spec := "planeBack", unfollowed := true, recurses := true, named := ["math/bits.divideError", "math/bits.overflowError"], apart := false }
def PlaneBackSaid : Prop := planeBackRow.holds Try.pinned (OpenSpec.ofChange planeBackSpec)

/-- ITS FALSE NEIGHBOUR: 'it returns false'. Refute it at one input. -/
def planeBackWrong : ChangeSpec := { name := "planeBack", fn := fun _ => fun
  | [d1, d2] => { results := [.lit (.bool false)], args := [d1, d2] }
  | _ => none }
def PlaneBackWrongFalsely : Prop := planeBackRow.holds Try.pinned (OpenSpec.ofChange planeBackWrong)

/-- 'flightdecklaw10.PlaneOrigin': WHATEVER THE INPUT: true; the input reads as it did. -/
def planeOriginSpec : ChangeSpec := { name := "planeOrigin", fn := fun _ => fun
  | [d] => { results := [.lit (.bool true)], args := [d] }
  | _ => none }
def planeOriginRow : OpenClaim := { program := "ytmlacekgmdlfjaa", sum := "585af412de03b8dfd64d6083f24bab1b3f8366c9d1852c22f9cf39ac7ea4cd72", func := "flightdeck/flightdecklaw10.PlaneOrigin", spec := "planeOrigin", unfollowed := true, recurses := true, named := ["math/bits.divideError", "math/bits.overflowError"], apart := false }
def PlaneOriginSaid : Prop := planeOriginRow.holds Try.pinned (OpenSpec.ofChange planeOriginSpec)

/-- ITS FALSE NEIGHBOUR: 'it returns false'. Refute it at one input. -/
def planeOriginWrong : ChangeSpec := { name := "planeOrigin", fn := fun _ => fun
  | [d] => { results := [.lit (.bool false)], args := [d] }
  | _ => none }
def PlaneOriginWrongFalsely : Prop := planeOriginRow.holds Try.pinned (OpenSpec.ofChange planeOriginWrong)

/-- 'flightdecklaw10.PlaneBorder': WHATEVER THE INPUT: true; the input reads as it did. -/
def planeBorderSpec : ChangeSpec := { name := "planeBorder", fn := fun _ => fun
  | [d1, d2, d3] => { results := [.lit (.bool true)], args := [d1, d2, d3] }
  | _ => none }
def planeBorderRow : OpenClaim := { program := "ytmlacekgmdlfjaa", sum := "585af412de03b8dfd64d6083f24bab1b3f8366c9d1852c22f9cf39ac7ea4cd72", func := "flightdeck/flightdecklaw10.PlaneBorder", spec := "planeBorder", unfollowed := true, recurses := true, named := ["math/bits.divideError", "math/bits.overflowError"], apart := false }
def PlaneBorderSaid : Prop := planeBorderRow.holds Try.pinned (OpenSpec.ofChange planeBorderSpec)

/-- ITS FALSE NEIGHBOUR: 'it returns false'. Refute it at one input. -/
def planeBorderWrong : ChangeSpec := { name := "planeBorder", fn := fun _ => fun
  | [d1, d2, d3] => { results := [.lit (.bool false)], args := [d1, d2, d3] }
  | _ => none }
def PlaneBorderWrongFalsely : Prop := planeBorderRow.holds Try.pinned (OpenSpec.ofChange planeBorderWrong)

/-- 'flightdecklaw10.PlaneProjects': WHATEVER THE INPUT: true; the input reads as it did. -/
def planeProjectsSpec : ChangeSpec := { name := "planeProjects", fn := fun _ => fun
  | [d1, d2] => { results := [.lit (.bool true)], args := [d1, d2] }
  | _ => none }
def planeProjectsRow : OpenClaim := { program := "ytmlacekgmdlfjaa", sum := "585af412de03b8dfd64d6083f24bab1b3f8366c9d1852c22f9cf39ac7ea4cd72", func := "flightdeck/flightdecklaw10.PlaneProjects", spec := "planeProjects", unfollowed := true, recurses := true, named := ["math/bits.divideError", "math/bits.overflowError"], apart := false }
def PlaneProjectsSaid : Prop := planeProjectsRow.holds Try.pinned (OpenSpec.ofChange planeProjectsSpec)

/-- ITS FALSE NEIGHBOUR: 'it returns false'. Refute it at one input. -/
def planeProjectsWrong : ChangeSpec := { name := "planeProjects", fn := fun _ => fun
  | [d1, d2] => { results := [.lit (.bool false)], args := [d1, d2] }
  | _ => none }
def PlaneProjectsWrongFalsely : Prop := planeProjectsRow.holds Try.pinned (OpenSpec.ofChange planeProjectsWrong)

/-- 'flightdecklaw10.PlaneForth': WHATEVER THE INPUT: true; the input reads as it did. -/
def planeForthSpec : ChangeSpec := { name := "planeForth", fn := fun _ => fun
  | [d1, d2] => { results := [.lit (.bool true)], args := [d1, d2] }
  | _ => none }
def planeForthRow : OpenClaim := { program := "ytmlacekgmdlfjaa", sum := "585af412de03b8dfd64d6083f24bab1b3f8366c9d1852c22f9cf39ac7ea4cd72", func := "flightdeck/flightdecklaw10.PlaneForth", spec := "planeForth", unfollowed := true, recurses := true, named := ["math/bits.divideError", "math/bits.overflowError"], apart := false }
def PlaneForthSaid : Prop := planeForthRow.holds Try.pinned (OpenSpec.ofChange planeForthSpec)

/-- ITS FALSE NEIGHBOUR: 'it returns false'. Refute it at one input. -/
def planeForthWrong : ChangeSpec := { name := "planeForth", fn := fun _ => fun
  | [d1, d2] => { results := [.lit (.bool false)], args := [d1, d2] }
  | _ => none }
def PlaneForthWrongFalsely : Prop := planeForthRow.holds Try.pinned (OpenSpec.ofChange planeForthWrong)

/-- 'flightdecklaw10.PlaneScale': WHATEVER THE INPUT: true; the input reads as it did. -/
def planeScaleSpec : ChangeSpec := { name := "planeScale", fn := fun _ => fun
  | [d1, d2, d3] => { results := [.lit (.bool true)], args := [d1, d2, d3] }
  | _ => none }
def planeScaleRow : OpenClaim := { program := "ytmlacekgmdlfjaa", sum := "585af412de03b8dfd64d6083f24bab1b3f8366c9d1852c22f9cf39ac7ea4cd72", func := "flightdeck/flightdecklaw10.PlaneScale", spec := "planeScale", unfollowed := true, recurses := true, named := ["math/bits.divideError", "math/bits.overflowError"], apart := false }
def PlaneScaleSaid : Prop := planeScaleRow.holds Try.pinned (OpenSpec.ofChange planeScaleSpec)

/-- ITS FALSE NEIGHBOUR: 'it returns false'. Refute it at one input. -/
def planeScaleWrong : ChangeSpec := { name := "planeScale", fn := fun _ => fun
  | [d1, d2, d3] => { results := [.lit (.bool false)], args := [d1, d2, d3] }
  | _ => none }
def PlaneScaleWrongFalsely : Prop := planeScaleRow.holds Try.pinned (OpenSpec.ofChange planeScaleWrong)

/-- 'flightdecklaw10.PlaneMeridian': WHATEVER THE INPUT: true; the input reads as it did. -/
def planeMeridianSpec : ChangeSpec := { name := "planeMeridian", fn := fun _ => fun
  | [d1, d2] => { results := [.lit (.bool true)], args := [d1, d2] }
  | _ => none }
def planeMeridianRow : OpenClaim := { program := "ytmlacekgmdlfjaa", sum := "585af412de03b8dfd64d6083f24bab1b3f8366c9d1852c22f9cf39ac7ea4cd72", func := "flightdeck/flightdecklaw10.PlaneMeridian", spec := "planeMeridian", unfollowed := true, recurses := true, named := ["math/bits.divideError", "math/bits.overflowError"], apart := false }
def PlaneMeridianSaid : Prop := planeMeridianRow.holds Try.pinned (OpenSpec.ofChange planeMeridianSpec)

/-- ITS FALSE NEIGHBOUR: 'it returns false'. Refute it at one input. -/
def planeMeridianWrong : ChangeSpec := { name := "planeMeridian", fn := fun _ => fun
  | [d1, d2] => { results := [.lit (.bool false)], args := [d1, d2] }
  | _ => none }
def PlaneMeridianWrongFalsely : Prop := planeMeridianRow.holds Try.pinned (OpenSpec.ofChange planeMeridianWrong)

/- THE SECOND FORM. 'bulk': how many values and letters a reading holds, each counted each time it is reached (what is shared counts as often as it is met; a slice's spare places count too). A statement '..UptoSaid' is the law's where the arguments, and the package variables that the reading takes, are together of bulk at most 1048576: NARROWER than '..Said'. Prove '..Said' where nothing that the law and all that it calls make is longer than what came in: it says more and counts as full. Else prove '..UptoSaid'. A law counts once. -/
mutual
def uptoBulk {H : Type} : DataW H → Nat
  | .lit (.string bytes) => bytes.length + 1
  | .lit _ => 1
  | .nil => 1
  | .ptr d => uptoBulk d + 1
  | .slice elems spare => uptoBulkAll elems + uptoBulkAll spare + 1
  | .agg parts => uptoBulkAll parts + 1
  | .iface _ d => uptoBulk d + 1
  | .map entries => uptoBulkEntries entries + 1
  | .held _ => 1
def uptoBulkAll {H : Type} : List (DataW H) → Nat
  | [] => 0
  | d :: r => uptoBulk d + uptoBulkAll r
def uptoBulkEntries {H : Type} : List (Lit × DataW H) → Nat
  | [] => 0
  | x :: r => uptoBulkEntry x + uptoBulkEntries r
def uptoBulkEntry {H : Type} : Lit × DataW H → Nat
  | (.string bytes, d) => bytes.length + uptoBulk d + 1
  | (_, d) => uptoBulk d + 1
 end
def uptoSmall : (H : Type) → List (DataW H) → Bool := fun _ ds => decide (uptoBulkAll ds ≤ 1048576)
def OpenSpec.upto (s : _root_.Go.ChangeSpec) : _root_.Go.OpenSpec := { _root_.Go.OpenSpec.ofChange s with cond := some uptoSmall }

/-- 'flightdecklaw10.PlaneReturns', WHERE WHAT IT READS IS OF BULK AT MOST 1048576: true; the input reads as it did. -/
def planeReturnsUptoRow : OpenClaim := { program := "ytmlacekgmdlfjaa", sum := "585af412de03b8dfd64d6083f24bab1b3f8366c9d1852c22f9cf39ac7ea4cd72", func := "flightdeck/flightdecklaw10.PlaneReturns", spec := "planeReturns", unfollowed := true, recurses := true, named := ["math/bits.divideError", "math/bits.overflowError"], apart := false, narrowed := true }
def PlaneReturnsUptoSaid : Prop := planeReturnsUptoRow.holds Try.pinned (OpenSpec.upto planeReturnsSpec)

/-- 'flightdecklaw10.PlaneBack', WHERE WHAT IT READS IS OF BULK AT MOST 1048576: true; the input reads as it did. -/
def planeBackUptoRow : OpenClaim := { program := "ytmlacekgmdlfjaa", sum := "585af412de03b8dfd64d6083f24bab1b3f8366c9d1852c22f9cf39ac7ea4cd72", func := "flightdeck/flightdecklaw10.PlaneBack", spec := "planeBack", unfollowed := true, recurses := true, named := ["math/bits.divideError", "math/bits.overflowError"], apart := false, narrowed := true }
def PlaneBackUptoSaid : Prop := planeBackUptoRow.holds Try.pinned (OpenSpec.upto planeBackSpec)

/-- 'flightdecklaw10.PlaneOrigin', WHERE WHAT IT READS IS OF BULK AT MOST 1048576: true; the input reads as it did. -/
def planeOriginUptoRow : OpenClaim := { program := "ytmlacekgmdlfjaa", sum := "585af412de03b8dfd64d6083f24bab1b3f8366c9d1852c22f9cf39ac7ea4cd72", func := "flightdeck/flightdecklaw10.PlaneOrigin", spec := "planeOrigin", unfollowed := true, recurses := true, named := ["math/bits.divideError", "math/bits.overflowError"], apart := false, narrowed := true }
def PlaneOriginUptoSaid : Prop := planeOriginUptoRow.holds Try.pinned (OpenSpec.upto planeOriginSpec)

/-- 'flightdecklaw10.PlaneBorder', WHERE WHAT IT READS IS OF BULK AT MOST 1048576: true; the input reads as it did. -/
def planeBorderUptoRow : OpenClaim := { program := "ytmlacekgmdlfjaa", sum := "585af412de03b8dfd64d6083f24bab1b3f8366c9d1852c22f9cf39ac7ea4cd72", func := "flightdeck/flightdecklaw10.PlaneBorder", spec := "planeBorder", unfollowed := true, recurses := true, named := ["math/bits.divideError", "math/bits.overflowError"], apart := false, narrowed := true }
def PlaneBorderUptoSaid : Prop := planeBorderUptoRow.holds Try.pinned (OpenSpec.upto planeBorderSpec)

/-- 'flightdecklaw10.PlaneProjects', WHERE WHAT IT READS IS OF BULK AT MOST 1048576: true; the input reads as it did. -/
def planeProjectsUptoRow : OpenClaim := { program := "ytmlacekgmdlfjaa", sum := "585af412de03b8dfd64d6083f24bab1b3f8366c9d1852c22f9cf39ac7ea4cd72", func := "flightdeck/flightdecklaw10.PlaneProjects", spec := "planeProjects", unfollowed := true, recurses := true, named := ["math/bits.divideError", "math/bits.overflowError"], apart := false, narrowed := true }
def PlaneProjectsUptoSaid : Prop := planeProjectsUptoRow.holds Try.pinned (OpenSpec.upto planeProjectsSpec)

/-- 'flightdecklaw10.PlaneForth', WHERE WHAT IT READS IS OF BULK AT MOST 1048576: true; the input reads as it did. -/
def planeForthUptoRow : OpenClaim := { program := "ytmlacekgmdlfjaa", sum := "585af412de03b8dfd64d6083f24bab1b3f8366c9d1852c22f9cf39ac7ea4cd72", func := "flightdeck/flightdecklaw10.PlaneForth", spec := "planeForth", unfollowed := true, recurses := true, named := ["math/bits.divideError", "math/bits.overflowError"], apart := false, narrowed := true }
def PlaneForthUptoSaid : Prop := planeForthUptoRow.holds Try.pinned (OpenSpec.upto planeForthSpec)

/-- 'flightdecklaw10.PlaneScale', WHERE WHAT IT READS IS OF BULK AT MOST 1048576: true; the input reads as it did. -/
def planeScaleUptoRow : OpenClaim := { program := "ytmlacekgmdlfjaa", sum := "585af412de03b8dfd64d6083f24bab1b3f8366c9d1852c22f9cf39ac7ea4cd72", func := "flightdeck/flightdecklaw10.PlaneScale", spec := "planeScale", unfollowed := true, recurses := true, named := ["math/bits.divideError", "math/bits.overflowError"], apart := false, narrowed := true }
def PlaneScaleUptoSaid : Prop := planeScaleUptoRow.holds Try.pinned (OpenSpec.upto planeScaleSpec)

/-- 'flightdecklaw10.PlaneMeridian', WHERE WHAT IT READS IS OF BULK AT MOST 1048576: true; the input reads as it did. -/
def planeMeridianUptoRow : OpenClaim := { program := "ytmlacekgmdlfjaa", sum := "585af412de03b8dfd64d6083f24bab1b3f8366c9d1852c22f9cf39ac7ea4cd72", func := "flightdeck/flightdecklaw10.PlaneMeridian", spec := "planeMeridian", unfollowed := true, recurses := true, named := ["math/bits.divideError", "math/bits.overflowError"], apart := false, narrowed := true }
def PlaneMeridianUptoSaid : Prop := planeMeridianUptoRow.holds Try.pinned (OpenSpec.upto planeMeridianSpec)

end Rows
end Go.Proofs.Ytmlacekgmdlfjaa
