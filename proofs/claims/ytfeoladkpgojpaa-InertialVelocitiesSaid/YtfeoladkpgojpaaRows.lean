/-
  No cell of these rows narrows 'for every input' (looked for: loops, veiled, ifaces, maps, wideKeys, modest, calm, conditions, laid).
  DERIVED. THE GIVEN ROWS OF THIS SEAT. 8 by the template 'for every input the law returns true; each argument reads behind the call as it read before'; 0 by the template 'total and deterministic' (their statements: YtfeoladkpgojpaaTotals.lean).
  GIVEN WITH THE SEED: the statements are not yours to turn. If you find one false, say at which input.
  Laid BY PROGRAM, IN A SANDBOX (cutbox-rows.mjs): the forced cells as the released guide's own fill.sh prints them over the translation 7572a33d52f8eae4… (all of the seat's roots in one cut). By AI agents, Wed Nov 11 2026. No macro, syntax, notation, axiom, sorry.
-/
import Derived.Test.YtfeoladkpgojpaaChecked
import GoSem.Claim
import GoSem.ClaimJoined
import GoSem.ClaimMapViews
import Derived.JoinedTies
import Derived.KernelRfl
namespace Go.Proofs.Ytfeoladkpgojpaa
/- THE CELL 'sum', in the pinned program and in every row, IS THE sha256 OF THE DUMP (.gsa) THAT YtfeoladkpgojpaaProg.lean LOADS. Nothing in Lean hashes anything: it is a label: what it is worth is what the hold of that sum in a sandbox is worth. -/
noncomputable def Try.pinned : Pinned := { name := "ytfeoladkpgojpaa", sum := "7572a33d52f8eae4e1fd0e1567e7060375772bd48a9749779d0a143761fe0f39", checked := Try.checked }
namespace Rows
def none {H : Type} : Left H := { results := [], args := [] }

/-- 'flightdecklaw45.InertialCoasts': WHATEVER THE INPUT: true; the input reads as it did. -/
def inertialCoastsSpec : ChangeSpec := { name := "inertialCoasts", fn := fun _ => fun
  | [d1, d2] => { results := [.lit (.bool true)], args := [d1, d2] }
  | _ => none }
def inertialCoastsRow : OpenClaim := { program := "ytfeoladkpgojpaa", sum := "7572a33d52f8eae4e1fd0e1567e7060375772bd48a9749779d0a143761fe0f39", func := "flightdeck/flightdecklaw45.InertialCoasts", spec := "inertialCoasts", named := ["math/bits.divideError", "math/bits.overflowError"], apart := false }
def InertialCoastsSaid : Prop := inertialCoastsRow.holds Try.pinned (OpenSpec.ofChange inertialCoastsSpec)

/-- ITS FALSE NEIGHBOUR: 'it returns false'. Refute it at one input. -/
def inertialCoastsWrong : ChangeSpec := { name := "inertialCoasts", fn := fun _ => fun
  | [d1, d2] => { results := [.lit (.bool false)], args := [d1, d2] }
  | _ => none }
def InertialCoastsWrongFalsely : Prop := inertialCoastsRow.holds Try.pinned (OpenSpec.ofChange inertialCoastsWrong)

/-- 'flightdecklaw45.InertialHolds': WHATEVER THE INPUT: true; the input reads as it did. -/
def inertialHoldsSpec : ChangeSpec := { name := "inertialHolds", fn := fun _ => fun
  | [d1, d2, d3] => { results := [.lit (.bool true)], args := [d1, d2, d3] }
  | _ => none }
def inertialHoldsRow : OpenClaim := { program := "ytfeoladkpgojpaa", sum := "7572a33d52f8eae4e1fd0e1567e7060375772bd48a9749779d0a143761fe0f39", func := "flightdeck/flightdecklaw45.InertialHolds", spec := "inertialHolds", named := ["math/bits.divideError", "math/bits.overflowError"], apart := false }
def InertialHoldsSaid : Prop := inertialHoldsRow.holds Try.pinned (OpenSpec.ofChange inertialHoldsSpec)

/-- ITS FALSE NEIGHBOUR: 'it returns false'. Refute it at one input. -/
def inertialHoldsWrong : ChangeSpec := { name := "inertialHolds", fn := fun _ => fun
  | [d1, d2, d3] => { results := [.lit (.bool false)], args := [d1, d2, d3] }
  | _ => none }
def InertialHoldsWrongFalsely : Prop := inertialHoldsRow.holds Try.pinned (OpenSpec.ofChange inertialHoldsWrong)

/-- 'flightdecklaw45.InertialAdds': WHATEVER THE INPUT: true; the input reads as it did. -/
def inertialAddsSpec : ChangeSpec := { name := "inertialAdds", fn := fun _ => fun
  | [d1, d2, d3] => { results := [.lit (.bool true)], args := [d1, d2, d3] }
  | _ => none }
def inertialAddsRow : OpenClaim := { program := "ytfeoladkpgojpaa", sum := "7572a33d52f8eae4e1fd0e1567e7060375772bd48a9749779d0a143761fe0f39", func := "flightdeck/flightdecklaw45.InertialAdds", spec := "inertialAdds", named := ["math/bits.divideError", "math/bits.overflowError"], apart := false }
def InertialAddsSaid : Prop := inertialAddsRow.holds Try.pinned (OpenSpec.ofChange inertialAddsSpec)

/-- ITS FALSE NEIGHBOUR: 'it returns false'. Refute it at one input. -/
def inertialAddsWrong : ChangeSpec := { name := "inertialAdds", fn := fun _ => fun
  | [d1, d2, d3] => { results := [.lit (.bool false)], args := [d1, d2, d3] }
  | _ => none }
def InertialAddsWrongFalsely : Prop := inertialAddsRow.holds Try.pinned (OpenSpec.ofChange inertialAddsWrong)

/-- 'flightdecklaw45.InertialMerges': WHATEVER THE INPUT: true; the input reads as it did. -/
def inertialMergesSpec : ChangeSpec := { name := "inertialMerges", fn := fun _ => fun
  | [d1, d2] => { results := [.lit (.bool true)], args := [d1, d2] }
  | _ => none }
def inertialMergesRow : OpenClaim := { program := "ytfeoladkpgojpaa", sum := "7572a33d52f8eae4e1fd0e1567e7060375772bd48a9749779d0a143761fe0f39", func := "flightdeck/flightdecklaw45.InertialMerges", spec := "inertialMerges", named := ["math/bits.divideError", "math/bits.overflowError"], apart := false }
def InertialMergesSaid : Prop := inertialMergesRow.holds Try.pinned (OpenSpec.ofChange inertialMergesSpec)

/-- ITS FALSE NEIGHBOUR: 'it returns false'. Refute it at one input. -/
def inertialMergesWrong : ChangeSpec := { name := "inertialMerges", fn := fun _ => fun
  | [d1, d2] => { results := [.lit (.bool false)], args := [d1, d2] }
  | _ => none }
def InertialMergesWrongFalsely : Prop := inertialMergesRow.holds Try.pinned (OpenSpec.ofChange inertialMergesWrong)

/-- 'flightdecklaw45.InertialMeets': WHATEVER THE INPUT: true; the input reads as it did. -/
def inertialMeetsSpec : ChangeSpec := { name := "inertialMeets", fn := fun _ => fun
  | [d1, d2, d3] => { results := [.lit (.bool true)], args := [d1, d2, d3] }
  | _ => none }
def inertialMeetsRow : OpenClaim := { program := "ytfeoladkpgojpaa", sum := "7572a33d52f8eae4e1fd0e1567e7060375772bd48a9749779d0a143761fe0f39", func := "flightdeck/flightdecklaw45.InertialMeets", spec := "inertialMeets", named := ["math/bits.divideError", "math/bits.overflowError"], apart := false }
def InertialMeetsSaid : Prop := inertialMeetsRow.holds Try.pinned (OpenSpec.ofChange inertialMeetsSpec)

/-- ITS FALSE NEIGHBOUR: 'it returns false'. Refute it at one input. -/
def inertialMeetsWrong : ChangeSpec := { name := "inertialMeets", fn := fun _ => fun
  | [d1, d2, d3] => { results := [.lit (.bool false)], args := [d1, d2, d3] }
  | _ => none }
def InertialMeetsWrongFalsely : Prop := inertialMeetsRow.holds Try.pinned (OpenSpec.ofChange inertialMeetsWrong)

/-- 'flightdecklaw45.InertialReaches': WHATEVER THE INPUT: true; the input reads as it did. -/
def inertialReachesSpec : ChangeSpec := { name := "inertialReaches", fn := fun _ => fun
  | [d1, d2, d3] => { results := [.lit (.bool true)], args := [d1, d2, d3] }
  | _ => none }
def inertialReachesRow : OpenClaim := { program := "ytfeoladkpgojpaa", sum := "7572a33d52f8eae4e1fd0e1567e7060375772bd48a9749779d0a143761fe0f39", func := "flightdeck/flightdecklaw45.InertialReaches", spec := "inertialReaches", named := ["math/bits.divideError", "math/bits.overflowError"], apart := false }
def InertialReachesSaid : Prop := inertialReachesRow.holds Try.pinned (OpenSpec.ofChange inertialReachesSpec)

/-- ITS FALSE NEIGHBOUR: 'it returns false'. Refute it at one input. -/
def inertialReachesWrong : ChangeSpec := { name := "inertialReaches", fn := fun _ => fun
  | [d1, d2, d3] => { results := [.lit (.bool false)], args := [d1, d2, d3] }
  | _ => none }
def InertialReachesWrongFalsely : Prop := inertialReachesRow.holds Try.pinned (OpenSpec.ofChange inertialReachesWrong)

/-- 'flightdecklaw45.InertialLasts': WHATEVER THE INPUT: true; the input reads as it did. -/
def inertialLastsSpec : ChangeSpec := { name := "inertialLasts", fn := fun _ => fun
  | [d1, d2, d3] => { results := [.lit (.bool true)], args := [d1, d2, d3] }
  | _ => none }
def inertialLastsRow : OpenClaim := { program := "ytfeoladkpgojpaa", sum := "7572a33d52f8eae4e1fd0e1567e7060375772bd48a9749779d0a143761fe0f39", func := "flightdeck/flightdecklaw45.InertialLasts", spec := "inertialLasts", named := ["math/bits.divideError", "math/bits.overflowError"], apart := false }
def InertialLastsSaid : Prop := inertialLastsRow.holds Try.pinned (OpenSpec.ofChange inertialLastsSpec)

/-- ITS FALSE NEIGHBOUR: 'it returns false'. Refute it at one input. -/
def inertialLastsWrong : ChangeSpec := { name := "inertialLasts", fn := fun _ => fun
  | [d1, d2, d3] => { results := [.lit (.bool false)], args := [d1, d2, d3] }
  | _ => none }
def InertialLastsWrongFalsely : Prop := inertialLastsRow.holds Try.pinned (OpenSpec.ofChange inertialLastsWrong)

/-- 'flightdecklaw45.InertialVelocities': WHATEVER THE INPUT: true; the input reads as it did. -/
def inertialVelocitiesSpec : ChangeSpec := { name := "inertialVelocities", fn := fun _ => fun
  | [d1, d2] => { results := [.lit (.bool true)], args := [d1, d2] }
  | _ => none }
def inertialVelocitiesRow : OpenClaim := { program := "ytfeoladkpgojpaa", sum := "7572a33d52f8eae4e1fd0e1567e7060375772bd48a9749779d0a143761fe0f39", func := "flightdeck/flightdecklaw45.InertialVelocities", spec := "inertialVelocities", unfollowed := true, recurses := true, named := ["math/bits.divideError", "math/bits.overflowError"], apart := false }
def InertialVelocitiesSaid : Prop := inertialVelocitiesRow.holds Try.pinned (OpenSpec.ofChange inertialVelocitiesSpec)

/-- ITS FALSE NEIGHBOUR: 'it returns false'. Refute it at one input. -/
def inertialVelocitiesWrong : ChangeSpec := { name := "inertialVelocities", fn := fun _ => fun
  | [d1, d2] => { results := [.lit (.bool false)], args := [d1, d2] }
  | _ => none }
def InertialVelocitiesWrongFalsely : Prop := inertialVelocitiesRow.holds Try.pinned (OpenSpec.ofChange inertialVelocitiesWrong)

/- THE SECOND FORM. 'bulk': how many values and letters a reading holds, each counted each time it is reached (what is shared counts as often as it is met; a slice's spare places count too). A statement '..UptoSaid' is the law's where the arguments, and the package variables that the reading takes, are together of bulk at most 1048576: NARROWER than '..Said'. Prove '..Said' where nothing that the law and all that it calls make is longer than what came in: it says more and counts as full. Else prove '..UptoSaid'. A law counts once. -/
mutual
def uptoBulk {H : Type} : DataW H → Nat
  | .lit (.string bytes) => bytes.length + 1
  | .lit _ => 1
  | .nil => 1
  | .ptr d => uptoBulk d + 1
  | .slice elems spare => uptoBulkAll elems + uptoBulkAll spare + 1
  | .agg parts => uptoBulkAll parts + 1
  | .iface _ d => uptoBulk d + 1
  | .map entries => uptoBulkEntries entries + 1
  | .held _ => 1
def uptoBulkAll {H : Type} : List (DataW H) → Nat
  | [] => 0
  | d :: r => uptoBulk d + uptoBulkAll r
def uptoBulkEntries {H : Type} : List (Lit × DataW H) → Nat
  | [] => 0
  | x :: r => uptoBulkEntry x + uptoBulkEntries r
def uptoBulkEntry {H : Type} : Lit × DataW H → Nat
  | (.string bytes, d) => bytes.length + uptoBulk d + 1
  | (_, d) => uptoBulk d + 1
 end
def uptoSmall : (H : Type) → List (DataW H) → Bool := fun _ ds => decide (uptoBulkAll ds ≤ 1048576)
def OpenSpec.upto (s : _root_.Go.ChangeSpec) : _root_.Go.OpenSpec := { _root_.Go.OpenSpec.ofChange s with cond := some uptoSmall }

/-- 'flightdecklaw45.InertialCoasts', WHERE WHAT IT READS IS OF BULK AT MOST 1048576: true; the input reads as it did. -/
def inertialCoastsUptoRow : OpenClaim := { program := "ytfeoladkpgojpaa", sum := "7572a33d52f8eae4e1fd0e1567e7060375772bd48a9749779d0a143761fe0f39", func := "flightdeck/flightdecklaw45.InertialCoasts", spec := "inertialCoasts", named := ["math/bits.divideError", "math/bits.overflowError"], apart := false, narrowed := true }
def InertialCoastsUptoSaid : Prop := inertialCoastsUptoRow.holds Try.pinned (OpenSpec.upto inertialCoastsSpec)

/-- 'flightdecklaw45.InertialHolds', WHERE WHAT IT READS IS OF BULK AT MOST 1048576: true; the input reads as it did. -/
def inertialHoldsUptoRow : OpenClaim := { program := "ytfeoladkpgojpaa", sum := "7572a33d52f8eae4e1fd0e1567e7060375772bd48a9749779d0a143761fe0f39", func := "flightdeck/flightdecklaw45.InertialHolds", spec := "inertialHolds", named := ["math/bits.divideError", "math/bits.overflowError"], apart := false, narrowed := true }
def InertialHoldsUptoSaid : Prop := inertialHoldsUptoRow.holds Try.pinned (OpenSpec.upto inertialHoldsSpec)

/-- 'flightdecklaw45.InertialAdds', WHERE WHAT IT READS IS OF BULK AT MOST 1048576: true; the input reads as it did. -/
def inertialAddsUptoRow : OpenClaim := { program := "ytfeoladkpgojpaa", sum := "7572a33d52f8eae4e1fd0e1567e7060375772bd48a9749779d0a143761fe0f39", func := "flightdeck/flightdecklaw45.InertialAdds", spec := "inertialAdds", named := ["math/bits.divideError", "math/bits.overflowError"], apart := false, narrowed := true }
def InertialAddsUptoSaid : Prop := inertialAddsUptoRow.holds Try.pinned (OpenSpec.upto inertialAddsSpec)

/-- 'flightdecklaw45.InertialMerges', WHERE WHAT IT READS IS OF BULK AT MOST 1048576: true; the input reads as it did. -/
def inertialMergesUptoRow : OpenClaim := { program := "ytfeoladkpgojpaa", sum := "7572a33d52f8eae4e1fd0e1567e7060375772bd48a9749779d0a143761fe0f39", func := "flightdeck/flightdecklaw45.InertialMerges", spec := "inertialMerges", named := ["math/bits.divideError", "math/bits.overflowError"], apart := false, narrowed := true }
def InertialMergesUptoSaid : Prop := inertialMergesUptoRow.holds Try.pinned (OpenSpec.upto inertialMergesSpec)

/-- 'flightdecklaw45.InertialMeets', WHERE WHAT IT READS IS OF BULK AT MOST 1048576: true; the input reads as it did. -/
def inertialMeetsUptoRow : OpenClaim := { program := "ytfeoladkpgojpaa", sum := "7572a33d52f8eae4e1fd0e1567e7060375772bd48a9749779d0a143761fe0f39", func := "flightdeck/flightdecklaw45.InertialMeets", spec := "inertialMeets", named := ["math/bits.divideError", "math/bits.overflowError"], apart := false, narrowed := true }
def InertialMeetsUptoSaid : Prop := inertialMeetsUptoRow.holds Try.pinned (OpenSpec.upto inertialMeetsSpec)

/-- 'flightdecklaw45.InertialReaches', WHERE WHAT IT READS IS OF BULK AT MOST 1048576: true; the input reads as it did. -/
def inertialReachesUptoRow : OpenClaim := { program := "ytfeoladkpgojpaa", sum := "7572a33d52f8eae4e1fd0e1567e7060375772bd48a9749779d0a143761fe0f39", func := "flightdeck/flightdecklaw45.InertialReaches", spec := "inertialReaches", named := ["math/bits.divideError", "math/bits.overflowError"], apart := false, narrowed := true }
def InertialReachesUptoSaid : Prop := inertialReachesUptoRow.holds Try.pinned (OpenSpec.upto inertialReachesSpec)

/-- 'flightdecklaw45.InertialLasts', WHERE WHAT IT READS IS OF BULK AT MOST 1048576: true; the input reads as it did. -/
def inertialLastsUptoRow : OpenClaim := { program := "ytfeoladkpgojpaa", sum := "7572a33d52f8eae4e1fd0e1567e7060375772bd48a9749779d0a143761fe0f39", func := "flightdeck/flightdecklaw45.InertialLasts", spec := "inertialLasts", named := ["math/bits.divideError", "math/bits.overflowError"], apart := false, narrowed := true }
def InertialLastsUptoSaid : Prop := inertialLastsUptoRow.holds Try.pinned (OpenSpec.upto inertialLastsSpec)

/-- 'flightdecklaw45.InertialVelocities', WHERE WHAT IT READS IS OF BULK AT MOST 1048576: true; the input reads as it did. -/
def inertialVelocitiesUptoRow : OpenClaim := { program := "ytfeoladkpgojpaa", sum := "7572a33d52f8eae4e1fd0e1567e7060375772bd48a9749779d0a143761fe0f39", func := "flightdeck/flightdecklaw45.InertialVelocities", spec := "inertialVelocities", unfollowed := true, recurses := true, named := ["math/bits.divideError", "math/bits.overflowError"], apart := false, narrowed := true }
def InertialVelocitiesUptoSaid : Prop := inertialVelocitiesUptoRow.holds Try.pinned (OpenSpec.upto inertialVelocitiesSpec)

end Rows
end Go.Proofs.Ytfeoladkpgojpaa
