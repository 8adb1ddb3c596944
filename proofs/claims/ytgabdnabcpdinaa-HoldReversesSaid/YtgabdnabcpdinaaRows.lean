/-
  No cell of these rows narrows 'for every input' (looked for: loops, veiled, ifaces, maps, wideKeys, modest, calm, conditions, laid).
  DERIVED. THE GIVEN ROWS OF THIS SEAT. 7 by the template 'for every input the law returns true; each argument reads behind the call as it read before'; 0 by the template 'total and deterministic' (their statements: YtgabdnabcpdinaaTotals.lean).
  GIVEN WITH THE SEED: the statements are not yours to turn. If you find one false, say at which input.
  Laid BY PROGRAM, IN A SANDBOX (cutbox-rows.mjs): the forced cells as the released guide's own fill.sh prints them over the translation 3f538c61527c6df7… (all of the seat's roots in one cut). By AI agents, Wed Nov 11 2026. No macro, syntax, notation, axiom, sorry.
-/
import Derived.Test.YtgabdnabcpdinaaChecked
import GoSem.Claim
import GoSem.ClaimJoined
import GoSem.ClaimMapViews
import Derived.JoinedTies
import Derived.KernelRfl
namespace Go.Proofs.Ytgabdnabcpdinaa
/- THE CELL 'sum', in the pinned program and in every row, IS THE sha256 OF THE DUMP (.gsa) THAT YtgabdnabcpdinaaProg.lean LOADS. Nothing in Lean hashes anything: it is a label: what it is worth is what the hold of that sum in a sandbox is worth. -/
noncomputable def Try.pinned : Pinned := { name := "ytgabdnabcpdinaa", sum := "3f538c61527c6df7a4c9f380e24b0e8173383967a750727657a5e792115da8ff", checked := Try.checked }
namespace Rows
def none {H : Type} : Left H := { results := [], args := [] }

/-- 'flightdecklaw26.HoldEntries': WHATEVER THE INPUT: true; the input reads as it did. -/
def holdEntriesSpec : ChangeSpec := { name := "holdEntries", fn := fun _ => fun
  | [d1, d2, d3] => { results := [.lit (.bool true)], args := [d1, d2, d3] }
  | _ => none }
def holdEntriesRow : OpenClaim := { program := "ytgabdnabcpdinaa", sum := "3f538c61527c6df7a4c9f380e24b0e8173383967a750727657a5e792115da8ff", func := "flightdeck/flightdecklaw26.HoldEntries", spec := "holdEntries", unfollowed := true, recurses := true, named := ["math/bits.divideError", "math/bits.overflowError"], apart := false }
def HoldEntriesSaid : Prop := holdEntriesRow.holds Try.pinned (OpenSpec.ofChange holdEntriesSpec)

/-- ITS FALSE NEIGHBOUR: 'it returns false'. Refute it at one input. -/
def holdEntriesWrong : ChangeSpec := { name := "holdEntries", fn := fun _ => fun
  | [d1, d2, d3] => { results := [.lit (.bool false)], args := [d1, d2, d3] }
  | _ => none }
def HoldEntriesWrongFalsely : Prop := holdEntriesRow.holds Try.pinned (OpenSpec.ofChange holdEntriesWrong)

/-- 'flightdecklaw26.HoldSectors': WHATEVER THE INPUT: true; the input reads as it did. -/
def holdSectorsSpec : ChangeSpec := { name := "holdSectors", fn := fun _ => fun
  | [d1, d2, d3] => { results := [.lit (.bool true)], args := [d1, d2, d3] }
  | _ => none }
def holdSectorsRow : OpenClaim := { program := "ytgabdnabcpdinaa", sum := "3f538c61527c6df7a4c9f380e24b0e8173383967a750727657a5e792115da8ff", func := "flightdeck/flightdecklaw26.HoldSectors", spec := "holdSectors", unfollowed := true, recurses := true, named := ["math/bits.divideError", "math/bits.overflowError"], apart := false }
def HoldSectorsSaid : Prop := holdSectorsRow.holds Try.pinned (OpenSpec.ofChange holdSectorsSpec)

/-- ITS FALSE NEIGHBOUR: 'it returns false'. Refute it at one input. -/
def holdSectorsWrong : ChangeSpec := { name := "holdSectors", fn := fun _ => fun
  | [d1, d2, d3] => { results := [.lit (.bool false)], args := [d1, d2, d3] }
  | _ => none }
def HoldSectorsWrongFalsely : Prop := holdSectorsRow.holds Try.pinned (OpenSpec.ofChange holdSectorsWrong)

/-- 'flightdecklaw26.HoldMirrors': WHATEVER THE INPUT: true; the input reads as it did. -/
def holdMirrorsSpec : ChangeSpec := { name := "holdMirrors", fn := fun _ => fun
  | [d1, d2] => { results := [.lit (.bool true)], args := [d1, d2] }
  | _ => none }
def holdMirrorsRow : OpenClaim := { program := "ytgabdnabcpdinaa", sum := "3f538c61527c6df7a4c9f380e24b0e8173383967a750727657a5e792115da8ff", func := "flightdeck/flightdecklaw26.HoldMirrors", spec := "holdMirrors", unfollowed := true, recurses := true, named := ["math/bits.divideError", "math/bits.overflowError"], apart := false }
def HoldMirrorsSaid : Prop := holdMirrorsRow.holds Try.pinned (OpenSpec.ofChange holdMirrorsSpec)

/-- ITS FALSE NEIGHBOUR: 'it returns false'. Refute it at one input. -/
def holdMirrorsWrong : ChangeSpec := { name := "holdMirrors", fn := fun _ => fun
  | [d1, d2] => { results := [.lit (.bool false)], args := [d1, d2] }
  | _ => none }
def HoldMirrorsWrongFalsely : Prop := holdMirrorsRow.holds Try.pinned (OpenSpec.ofChange holdMirrorsWrong)

/-- 'flightdecklaw26.HoldPatterns': WHATEVER THE INPUT: true; the input reads as it did. -/
def holdPatternsSpec : ChangeSpec := { name := "holdPatterns", fn := fun _ => fun
  | [d] => { results := [.lit (.bool true)], args := [d] }
  | _ => none }
def holdPatternsRow : OpenClaim := { program := "ytgabdnabcpdinaa", sum := "3f538c61527c6df7a4c9f380e24b0e8173383967a750727657a5e792115da8ff", func := "flightdeck/flightdecklaw26.HoldPatterns", spec := "holdPatterns", unfollowed := true, recurses := true, named := ["math/bits.divideError", "math/bits.overflowError"], apart := false }
def HoldPatternsSaid : Prop := holdPatternsRow.holds Try.pinned (OpenSpec.ofChange holdPatternsSpec)

/-- ITS FALSE NEIGHBOUR: 'it returns false'. Refute it at one input. -/
def holdPatternsWrong : ChangeSpec := { name := "holdPatterns", fn := fun _ => fun
  | [d] => { results := [.lit (.bool false)], args := [d] }
  | _ => none }
def HoldPatternsWrongFalsely : Prop := holdPatternsRow.holds Try.pinned (OpenSpec.ofChange holdPatternsWrong)

/-- 'flightdecklaw26.HoldCloses': WHATEVER THE INPUT: true; the input reads as it did. -/
def holdClosesSpec : ChangeSpec := { name := "holdCloses", fn := fun _ => fun
  | [d] => { results := [.lit (.bool true)], args := [d] }
  | _ => none }
def holdClosesRow : OpenClaim := { program := "ytgabdnabcpdinaa", sum := "3f538c61527c6df7a4c9f380e24b0e8173383967a750727657a5e792115da8ff", func := "flightdeck/flightdecklaw26.HoldCloses", spec := "holdCloses", unfollowed := true, recurses := true, named := ["math/bits.divideError", "math/bits.overflowError"], apart := false }
def HoldClosesSaid : Prop := holdClosesRow.holds Try.pinned (OpenSpec.ofChange holdClosesSpec)

/-- ITS FALSE NEIGHBOUR: 'it returns false'. Refute it at one input. -/
def holdClosesWrong : ChangeSpec := { name := "holdCloses", fn := fun _ => fun
  | [d] => { results := [.lit (.bool false)], args := [d] }
  | _ => none }
def HoldClosesWrongFalsely : Prop := holdClosesRow.holds Try.pinned (OpenSpec.ofChange holdClosesWrong)

/-- 'flightdecklaw26.HoldEnters': WHATEVER THE INPUT: true; the input reads as it did. -/
def holdEntersSpec : ChangeSpec := { name := "holdEnters", fn := fun _ => fun
  | [d1, d2] => { results := [.lit (.bool true)], args := [d1, d2] }
  | _ => none }
def holdEntersRow : OpenClaim := { program := "ytgabdnabcpdinaa", sum := "3f538c61527c6df7a4c9f380e24b0e8173383967a750727657a5e792115da8ff", func := "flightdeck/flightdecklaw26.HoldEnters", spec := "holdEnters", unfollowed := true, recurses := true, named := ["math/bits.divideError", "math/bits.overflowError"], apart := false }
def HoldEntersSaid : Prop := holdEntersRow.holds Try.pinned (OpenSpec.ofChange holdEntersSpec)

/-- ITS FALSE NEIGHBOUR: 'it returns false'. Refute it at one input. -/
def holdEntersWrong : ChangeSpec := { name := "holdEnters", fn := fun _ => fun
  | [d1, d2] => { results := [.lit (.bool false)], args := [d1, d2] }
  | _ => none }
def HoldEntersWrongFalsely : Prop := holdEntersRow.holds Try.pinned (OpenSpec.ofChange holdEntersWrong)

/-- 'flightdecklaw26.HoldReverses': WHATEVER THE INPUT: true; the input reads as it did. -/
def holdReversesSpec : ChangeSpec := { name := "holdReverses", fn := fun _ => fun
  | [d] => { results := [.lit (.bool true)], args := [d] }
  | _ => none }
def holdReversesRow : OpenClaim := { program := "ytgabdnabcpdinaa", sum := "3f538c61527c6df7a4c9f380e24b0e8173383967a750727657a5e792115da8ff", func := "flightdeck/flightdecklaw26.HoldReverses", spec := "holdReverses", unfollowed := true, recurses := true, named := ["math/bits.divideError", "math/bits.overflowError"], apart := false }
def HoldReversesSaid : Prop := holdReversesRow.holds Try.pinned (OpenSpec.ofChange holdReversesSpec)

/-- ITS FALSE NEIGHBOUR: 'it returns false'. Refute it at one input. -/
def holdReversesWrong : ChangeSpec := { name := "holdReverses", fn := fun _ => fun
  | [d] => { results := [.lit (.bool false)], args := [d] }
  | _ => none }
def HoldReversesWrongFalsely : Prop := holdReversesRow.holds Try.pinned (OpenSpec.ofChange holdReversesWrong)

/- THE SECOND FORM. 'bulk': how many values and letters a reading holds, each counted each time it is reached (what is shared counts as often as it is met; a slice's spare places count too). A statement '..UptoSaid' is the law's where the arguments, and the package variables that the reading takes, are together of bulk at most 1048576: NARROWER than '..Said'. Prove '..Said' where nothing that the law and all that it calls make is longer than what came in: it says more and counts as full. Else prove '..UptoSaid'. A law counts once. -/
mutual
def uptoBulk {H : Type} : DataW H → Nat
  | .lit (.string bytes) => bytes.length + 1
  | .lit _ => 1
  | .nil => 1
  | .ptr d => uptoBulk d + 1
  | .slice elems spare => uptoBulkAll elems + uptoBulkAll spare + 1
  | .agg parts => uptoBulkAll parts + 1
  | .iface _ d => uptoBulk d + 1
  | .map entries => uptoBulkEntries entries + 1
  | .held _ => 1
def uptoBulkAll {H : Type} : List (DataW H) → Nat
  | [] => 0
  | d :: r => uptoBulk d + uptoBulkAll r
def uptoBulkEntries {H : Type} : List (Lit × DataW H) → Nat
  | [] => 0
  | x :: r => uptoBulkEntry x + uptoBulkEntries r
def uptoBulkEntry {H : Type} : Lit × DataW H → Nat
  | (.string bytes, d) => bytes.length + uptoBulk d + 1
  | (_, d) => uptoBulk d + 1
 end
def uptoSmall : (H : Type) → List (DataW H) → Bool := fun _ ds => decide (uptoBulkAll ds ≤ 1048576)
def OpenSpec.upto (s : _root_.Go.ChangeSpec) : _root_.Go.OpenSpec := { _root_.Go.OpenSpec.ofChange s with cond := some uptoSmall }

/-- 'flightdecklaw26.HoldEntries', WHERE WHAT IT READS IS OF BULK AT MOST 1048576: true; the input reads as it did. -/
def holdEntriesUptoRow : OpenClaim := { program := "ytgabdnabcpdinaa", sum := "3f538c61527c6df7a4c9f380e24b0e8173383967a750727657a5e792115da8ff", func := "flightdeck/flightdecklaw26.HoldEntries", spec := "holdEntries", unfollowed := true, recurses := true, named := ["math/bits.divideError", "math/bits.overflowError"], apart := false, narrowed := true }
def HoldEntriesUptoSaid : Prop := holdEntriesUptoRow.holds Try.pinned (OpenSpec.upto holdEntriesSpec)

/-- 'flightdecklaw26.HoldSectors', WHERE WHAT IT READS IS OF BULK AT MOST 1048576: true; the input reads as it did. -/
def holdSectorsUptoRow : OpenClaim := { program := "ytgabdnabcpdinaa", sum := "3f538c61527c6df7a4c9f380e24b0e8173383967a750727657a5e792115da8ff", func := "flightdeck/flightdecklaw26.HoldSectors", spec := "holdSectors", unfollowed := true, recurses := true, named := ["math/bits.divideError", "math/bits.overflowError"], apart := false, narrowed := true }
def HoldSectorsUptoSaid : Prop := holdSectorsUptoRow.holds Try.pinned (OpenSpec.upto holdSectorsSpec)

/-- 'flightdecklaw26.HoldMirrors', WHERE WHAT IT READS IS OF BULK AT MOST 1048576: true; the input reads as it did. -/
def holdMirrorsUptoRow : OpenClaim := { program := "ytgabdnabcpdinaa", sum := "3f538c61527c6df7a4c9f380e24b0e8173383967a750727657a5e792115da8ff", func := "flightdeck/flightdecklaw26.HoldMirrors", spec := "holdMirrors", unfollowed := true, recurses := true, named := ["math/bits.divideError", "math/bits.overflowError"], apart := false, narrowed := true }
def HoldMirrorsUptoSaid : Prop := holdMirrorsUptoRow.holds Try.pinned (OpenSpec.upto holdMirrorsSpec)

/-- 'flightdecklaw26.HoldPatterns', WHERE WHAT IT READS IS OF BULK AT MOST 1048576: true; the input reads as it did. -/
def holdPatternsUptoRow : OpenClaim := { program := "ytgabdnabcpdinaa", sum := "3f538c61527c6df7a4c9f380e24b0e8173383967a750727657a5e792115da8ff", func := "flightdeck/flightdecklaw26.HoldPatterns", spec := "holdPatterns", unfollowed := true, recurses := true, named := ["math/bits.divideError", "math/bits.overflowError"], apart := false, narrowed := true }
def HoldPatternsUptoSaid : Prop := holdPatternsUptoRow.holds Try.pinned (OpenSpec.upto holdPatternsSpec)

/-- 'flightdecklaw26.HoldCloses', WHERE WHAT IT READS IS OF BULK AT MOST 1048576: true; the input reads as it did. -/
def holdClosesUptoRow : OpenClaim := { program := "ytgabdnabcpdinaa", sum := "3f538c61527c6df7a4c9f380e24b0e8173383967a750727657a5e792115da8ff", func := "flightdeck/flightdecklaw26.HoldCloses", spec := "holdCloses", unfollowed := true, recurses := true, named := ["math/bits.divideError", "math/bits.overflowError"], apart := false, narrowed := true }
def HoldClosesUptoSaid : Prop := holdClosesUptoRow.holds Try.pinned (OpenSpec.upto holdClosesSpec)

/-- 'flightdecklaw26.HoldEnters', WHERE WHAT IT READS IS OF BULK AT MOST 1048576: true; the input reads as it did. -/
def holdEntersUptoRow : OpenClaim := { program := "ytgabdnabcpdinaa", sum := "3f538c61527c6df7a4c9f380e24b0e8173383967a750727657a5e792115da8ff", func := "flightdeck/flightdecklaw26.HoldEnters", spec := "holdEnters", unfollowed := true, recurses := true, named := ["math/bits.divideError", "math/bits.overflowError"], apart := false, narrowed := true }
def HoldEntersUptoSaid : Prop := holdEntersUptoRow.holds Try.pinned (OpenSpec.upto holdEntersSpec)

/-- 'flightdecklaw26.HoldReverses', WHERE WHAT IT READS IS OF BULK AT MOST 1048576: true; the input reads as it did. -/
def holdReversesUptoRow : OpenClaim := { program := "ytgabdnabcpdinaa", sum := "3f538c61527c6df7a4c9f380e24b0e8173383967a750727657a5e792115da8ff", func := "flightdeck/flightdecklaw26.HoldReverses", spec := "holdReverses", unfollowed := true, recurses := true, named := ["math/bits.divideError", "math/bits.overflowError"], apart := false, narrowed := true }
def HoldReversesUptoSaid : Prop := holdReversesUptoRow.holds Try.pinned (OpenSpec.upto holdReversesSpec)

end Rows
end Go.Proofs.Ytgabdnabcpdinaa
