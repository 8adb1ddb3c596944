/- Slices of positions and of numbers as arguments: opened, and read again behind a call that leaves old memory as it was. -/
import Derived.Test.YtgcanoopbhoalaaLawTb
import Derived.ProofKit
import Derived.OpenShut
import Derived.Deep.SlicePairs
import Derived.ChangeSlices
import Derived.ChangeBears
import Derived.ReadAgain
import Derived.ChangeOld
import Derived.Lib.SmallJoins
namespace Go.Proofs.Ytgcanoopbhoalaa
open Go.ChangeShapes Go.WideShapes Go.RowKit Go.Joins Go.Deep Fdk
set_option linter.unusedVariables false
/-- an argument, read again. -/
theorem trod_again {H : Type} {enc : TypeId × Value → H} {W W' : World} {t : TypeId} {v : Value} {d : DataW H} {p : List MemPlace} (ht : t < Try.prog.types.size) (hb : Below W.heap.size W W') (h : DataW.Trod enc Try.prog W 0 (fun _ => true) true t v d p) :
    DataW.Trod enc Try.prog W' 0 (fun b => decide (b < W.heap.size)) true t v d p := by
  have K := kids_rows (P := Try.prog) (by kernel_rfl) (by kernel_rfl)
  have hlt : ∀ x ∈ p, x.block < W.heap.size := by
    obtain ⟨n, hn⟩ := h
    exact DataW.trod_lt n t _ _ hn
  obtain ⟨n, hn⟩ := h.respare K (slices_full_of Try.prog (by kernel_rfl)) ht (spare' := fun b => decide (b < W.heap.size)) (fun x hx => decide_eq_true (hlt x hx))
  exact ⟨n, DataW.trod_carry n t _ _ hn (fun x hx => hb.same (hlt x hx))⟩
theorem add_flat (b off k : Nat) : (⟨b, off, none⟩ : Addr).add k = ⟨b, off + k, none⟩ := by
  unfold Addr.add
  by_cases h : k = 0
  · subst h; simp
  · simp [h]
/-- a slice of positions. -/
def PosArg (w : World) (v : Value) : Prop := (∃ q cap, v = .slice q 0 cap) ∨ ∃ (b off n cap : Nat) (A B : Nat → Int), v = .slice (some ⟨b, off, none⟩) n cap ∧ b < w.heap.size ∧ n ≤ cap ∧ cap ≤ maxLen ∧ PosAt w b off n A B
theorem oposs {H : Type} {enc : TypeId × Value → H} {W : World} {v : Value} {d : DataW H} {p : List MemPlace} {r : Reach} {b0 : Nat} (hv : Value.okWide Try.prog W r b0 22 v) (h : DataW.Trod enc Try.prog W 0 (fun _ => true) true 22 v d p) : PosArg W v := by
  obtain ⟨q, len, cap, rfl⟩ := okWide_slice Try.underlying22 hv
  obtain ⟨fuel, hf⟩ := h
  have hf' : DataW.trod enc Try.prog W 0 (fun _ => true) true fuel 22 [.slice q len cap] = some (d, p) := by simpa [Value.cells] using hf
  rcases open_slice_pairs Try.underlying22 Try.underlying27 (by kernel_rfl) rfl rfl (by kernel_rfl) (by kernel_rfl) hf' with ⟨hc, _⟩ | ⟨a, len', cap', m, n, V0, V1, D0, D1, P0, P1, hc, _, hl, hm, hmm, _, hx⟩
  · simp only [List.cons.injEq, and_true, Value.slice.injEq] at hc
    obtain ⟨rfl, rfl, rfl⟩ := hc
    exact .inl ⟨_, _, rfl⟩
  · simp only [List.cons.injEq, and_true, Value.slice.injEq] at hc
    obtain ⟨rfl, rfl, rfl⟩ := hc
    simp only [if_true] at hmm
    by_cases h0 : len = 0
    · subst h0; exact .inl ⟨_, _, rfl⟩
    · refine .inr ?_
      obtain ⟨b, off, spot⟩ := a
      obtain rfl : spot = none := by
        have := World.cell?_spot (hx 0 (by omega)).1
        simpa [Addr.add] using this
      have hbw : b < W.heap.size := by
        have := World.block_lt_of_cell? W _ (hx 0 (by omega)).1
        simpa [Addr.add] using this
      have key : ∀ i, ∃ z : Int × Int, i < len → W.cell? ⟨b, off + i * 2, none⟩ = some (.int .i64 z.1) ∧ W.cell? ⟨b, off + i * 2 + 1, none⟩ = some (.int .i64 z.2) := fun i => by
        by_cases hi : i < len
        · obtain ⟨c0, c1, t0, t1⟩ := hx i (by omega)
          obtain ⟨x, h1, _, _⟩ := DataW.trod_int Try.underlying2 t0
          obtain ⟨y, h2, _, _⟩ := DataW.trod_int Try.underlying2 t1
          simp only [List.cons.injEq, and_true] at h1 h2
          rw [h1] at c0
          rw [h2] at c1
          rw [add_flat] at c0 c1
          exact ⟨(x, y), fun _ => ⟨c0, c1⟩⟩
        · exact ⟨(0, 0), fun h => absurd h hi⟩
      exact ⟨b, off, len, cap, fun i => (Classical.choose (key i)).1, fun i => (Classical.choose (key i)).2, rfl, hbw, hl, hm, fun i hi => Classical.choose_spec (key i) hi⟩
/-- a slice of numbers. -/
def IntArg (w : World) (v : Value) : Prop := (∃ q cap, v = .slice q 0 cap) ∨ ∃ (b off n cap : Nat) (Z : Nat → Int), v = .slice (some ⟨b, off, none⟩) n cap ∧ b < w.heap.size ∧ n ≤ cap ∧ cap ≤ maxLen ∧ IntAt w b off n Z
theorem oints {H : Type} {enc : TypeId × Value → H} {W : World} {v : Value} {d : DataW H} {p : List MemPlace} {r : Reach} {b0 : Nat} (hv : Value.okWide Try.prog W r b0 29 v) (h : DataW.Trod enc Try.prog W 0 (fun _ => true) true 29 v d p) : IntArg W v := by
  obtain ⟨q, len, cap, rfl⟩ := okWide_slice Try.underlying29 hv
  obtain ⟨fuel, hf⟩ := h
  have hf' : DataW.trod enc Try.prog W 0 (fun _ => true) true fuel 29 [.slice q len cap] = some (d, p) := by simpa [Value.cells] using hf
  rcases open_ints Try.underlying29 Try.underlying2 (by kernel_rfl) hf' with ⟨hc, _⟩ | ⟨a, len', cap', zs, hc, _, hl, hm, hz, _, hx, hw⟩
  · simp only [List.cons.injEq, and_true, Value.slice.injEq] at hc
    obtain ⟨rfl, rfl, rfl⟩ := hc
    exact .inl ⟨_, _, rfl⟩
  · simp only [List.cons.injEq, and_true, Value.slice.injEq] at hc
    obtain ⟨rfl, rfl, rfl⟩ := hc
    simp only [if_true] at hz
    by_cases h0 : len = 0
    · subst h0; exact .inl ⟨_, _, rfl⟩
    · refine .inr ?_
      obtain ⟨b, off, spot⟩ := a
      obtain rfl : spot = none := by
        have := World.cell?_spot (hx 0 (by omega))
        simpa [Addr.add] using this
      have hbw : b < W.heap.size := by
        have := World.block_lt_of_cell? W _ (hx 0 (by omega))
        simpa [Addr.add] using this
      refine ⟨b, off, len, cap, fun i => zs.getD i 0, rfl, hbw, hl, hm, fun i hi => ?_⟩
      have h1 := hx i (by omega)
      rw [add_flat] at h1
      have hi' : i < zs.length := by omega
      refine ⟨h1, bounds_i64 (hw _ ?_)⟩
      show zs.getD i 0 ∈ zs
      rw [List.getD_eq_getElem?_getD, List.getElem?_eq_getElem hi']
      exact List.getElem_mem hi'
theorem topAlong_walk (a b : Int) (_ : -9223372036854775808 ≤ a ∧ a ≤ 9223372036854775807) (_ : -9223372036854775808 ≤ b ∧ b ≤ 9223372036854775807) (t : Int) (_ : -9223372036854775808 ≤ t ∧ t ≤ 9223372036854775807) (v : Value) (w : World) (h : IntArg w v) :
    Calls Try.prog 4 #[posV a b, .int .i64 t, v] w fun e w' => e = .returned (.bool true) ∧ Below w.heap.size w w' := by
  rcases h with ⟨q, cap, rfl⟩ | ⟨bl, off, n, cap, Z, rfl, hb, hl, hm, hc⟩
  · exact along_none a b t q cap w
  · cases hv : vd a b
    · exact along_bad a b t bl off n cap Z w hv hb hl hm hc
    · exact along_some a b t bl off n cap Z w hv hb hl hm hc
set_option maxHeartbeats 4000000 in
theorem triangle_zero (q : Option Addr) (cap : Nat) (w : World) :
    Calls Try.prog 3 #[.slice q 0 cap] w fun e w' => e = .returned (.bool true) ∧ Below w.heap.size w w' := by
  go_enter Try.func3, Try.ntmps3
  go_wp2_with fail
  refine (dist_any _ _ _ _ _).mono ?_
  rintro e w1 ⟨rfl, hb⟩
  rw [ex_dt]
  go_wp2_with fail
  go_loopw [6] (fun i wr => i = .int .i64 1 ∧ Below w.heap.size w wr) (fun _ _ => 0)
  case atStart => exact ⟨rfl, hb⟩
  case round =>
    obtain ⟨rfl, hb⟩ := hrel
    go_wp2
    go_ret
    exact ⟨rfl, hb⟩
theorem topTriangle_walk (v : Value) (w : World) (h : PosArg w v) :
    Calls Try.prog 3 #[v] w fun e w' => e = .returned (.bool true) ∧ Below w.heap.size w w' := by
  rcases h with ⟨q, cap, rfl⟩ | ⟨b, off, n, cap, A, B, rfl, hb, hl, hm, hc⟩
  · exact triangle_zero q cap w
  · exact triangle_some b off n cap A B w hb hl hm hc
end Go.Proofs.Ytgcanoopbhoalaa
