/- Slices of windows and of steps as arguments: opened, and read again behind a call that leaves old memory as it was. -/
import Derived.Test.YtkhklhibimihfaaPairJ
import Derived.ProofKit
import Derived.OpenShut
import Derived.Deep.SlicePairs
import Derived.ChangeSlices
import Derived.ChangeBears
import Derived.ReadAgain
import Derived.ChangeOld
import Derived.Lib.SmallJoins
namespace Go.Proofs.Ytkhklhibimihfaa
open Go.ChangeShapes Go.WideShapes Go.RowKit Go.Joins Go.Deep Fdk
set_option linter.unusedVariables false
/-- an argument, read again. -/
theorem trod_again {H : Type} {enc : TypeId × Value → H} {W W' : World} {t : TypeId} {v : Value} {d : DataW H} {p : List MemPlace} (ht : t < Try.prog.types.size) (hb : Below W.heap.size W W') (h : DataW.Trod enc Try.prog W 0 (fun _ => true) true t v d p) :
    DataW.Trod enc Try.prog W' 0 (fun b => decide (b < W.heap.size)) true t v d p := by
  have K := kids_rows (P := Try.prog) (by kernel_rfl) (by kernel_rfl)
  have hlt : ∀ x ∈ p, x.block < W.heap.size := by
    obtain ⟨n, hn⟩ := h
    exact DataW.trod_lt n t _ _ hn
  obtain ⟨n, hn⟩ := h.respare K (slices_full_of Try.prog (by kernel_rfl)) ht (spare' := fun b => decide (b < W.heap.size)) (fun x hx => decide_eq_true (hlt x hx))
  exact ⟨n, DataW.trod_carry n t _ _ hn (fun x hx => hb.same (hlt x hx))⟩
theorem add_flat (b off k : Nat) : (⟨b, off, none⟩ : Addr).add k = ⟨b, off + k, none⟩ := by
  unfold Addr.add
  by_cases h : k = 0
  · subst h; simp
  · simp [h]
/-- a slice of pairs as an argument. -/
def PairArg (w : World) (v : Value) : Prop := ∃ (q : Option Addr) (n c : Nat) (A B : Nat → Int), v = .slice q n c ∧ S2 w q n c A B
theorem s2_zero (w : World) (q : Option Addr) (c : Nat) : S2 w q 0 c (fun _ => 0) (fun _ => 0) := ⟨Nat.zero_le _, fun h => absurd h (Nat.lt_irrefl _), fun h => absurd h (Nat.lt_irrefl _)⟩
theorem owins {H : Type} {enc : TypeId × Value → H} {W : World} {v : Value} {d : DataW H} {p : List MemPlace} {r : Reach} {b0 : Nat} (hv : Value.okWide Try.prog W r b0 22 v) (h : DataW.Trod enc Try.prog W 0 (fun _ => true) true 22 v d p) : PairArg W v := by
  obtain ⟨q, len, cap, rfl⟩ := okWide_slice Try.underlying22 hv
  obtain ⟨fuel, hf⟩ := h
  have hf' : DataW.trod enc Try.prog W 0 (fun _ => true) true fuel 22 [.slice q len cap] = some (d, p) := by simpa [Value.cells] using hf
  rcases open_slice_pairs Try.underlying22 Try.underlying32 (by kernel_rfl) rfl rfl (by kernel_rfl) (by kernel_rfl) hf' with ⟨hc, _⟩ | ⟨a, len', cap', m, n, V0, V1, D0, D1, P0, P1, hc, _, hl, hm, hmm, _, hx⟩
  · simp only [List.cons.injEq, and_true, Value.slice.injEq] at hc
    obtain ⟨rfl, rfl, rfl⟩ := hc
    exact ⟨_, 0, _, _, _, rfl, s2_zero _ _ _⟩
  · simp only [List.cons.injEq, and_true, Value.slice.injEq] at hc
    obtain ⟨rfl, rfl, rfl⟩ := hc
    simp only [if_true] at hmm
    by_cases h0 : len = 0
    · subst h0; exact ⟨_, 0, _, _, _, rfl, s2_zero _ _ _⟩
    · obtain ⟨b, off, spot⟩ := a
      obtain rfl : spot = none := by
        have := World.cell?_spot (hx 0 (by omega)).1
        simpa [Addr.add] using this
      have hbw : b < W.heap.size := by
        have := World.block_lt_of_cell? W _ (hx 0 (by omega)).1
        simpa [Addr.add] using this
      have key : ∀ i, ∃ z : Int × Int, i < len → W.cell? ⟨b, off + i * 2, none⟩ = some (.int .i64 z.1) ∧ W.cell? ⟨b, off + i * 2 + 1, none⟩ = some (.int .i64 z.2) := fun i => by
        by_cases hi : i < len
        · obtain ⟨c0, c1, t0, t1⟩ := hx i (by omega)
          obtain ⟨x, h1, _, _⟩ := DataW.trod_int Try.underlying2 t0
          obtain ⟨y, h2, _, _⟩ := DataW.trod_int Try.underlying2 t1
          simp only [List.cons.injEq, and_true] at h1 h2
          rw [h1] at c0
          rw [h2] at c1
          rw [add_flat] at c0 c1
          exact ⟨(x, y), fun _ => ⟨c0, c1⟩⟩
        · exact ⟨(0, 0), fun h => absurd h hi⟩
      exact ⟨_, len, cap, fun i => (Classical.choose (key i)).1, fun i => (Classical.choose (key i)).2, rfl, Nat.le_trans hl hm, fun _ => ⟨hl, hm⟩, fun _ => ⟨b, off, rfl, hbw, fun i hi => Classical.choose_spec (key i) hi⟩⟩
theorem osteps {H : Type} {enc : TypeId × Value → H} {W : World} {v : Value} {d : DataW H} {p : List MemPlace} {r : Reach} {b0 : Nat} (hv : Value.okWide Try.prog W r b0 23 v) (h : DataW.Trod enc Try.prog W 0 (fun _ => true) true 23 v d p) : PairArg W v := by
  obtain ⟨q, len, cap, rfl⟩ := okWide_slice Try.underlying23 hv
  obtain ⟨fuel, hf⟩ := h
  have hf' : DataW.trod enc Try.prog W 0 (fun _ => true) true fuel 23 [.slice q len cap] = some (d, p) := by simpa [Value.cells] using hf
  rcases open_slice_pairs Try.underlying23 Try.underlying35 (by kernel_rfl) rfl rfl (by kernel_rfl) (by kernel_rfl) hf' with ⟨hc, _⟩ | ⟨a, len', cap', m, n, V0, V1, D0, D1, P0, P1, hc, _, hl, hm, hmm, _, hx⟩
  · simp only [List.cons.injEq, and_true, Value.slice.injEq] at hc
    obtain ⟨rfl, rfl, rfl⟩ := hc
    exact ⟨_, 0, _, _, _, rfl, s2_zero _ _ _⟩
  · simp only [List.cons.injEq, and_true, Value.slice.injEq] at hc
    obtain ⟨rfl, rfl, rfl⟩ := hc
    simp only [if_true] at hmm
    by_cases h0 : len = 0
    · subst h0; exact ⟨_, 0, _, _, _, rfl, s2_zero _ _ _⟩
    · obtain ⟨b, off, spot⟩ := a
      obtain rfl : spot = none := by
        have := World.cell?_spot (hx 0 (by omega)).1
        simpa [Addr.add] using this
      have hbw : b < W.heap.size := by
        have := World.block_lt_of_cell? W _ (hx 0 (by omega)).1
        simpa [Addr.add] using this
      have key : ∀ i, ∃ z : Int × Int, i < len → W.cell? ⟨b, off + i * 2, none⟩ = some (.int .i64 z.1) ∧ W.cell? ⟨b, off + i * 2 + 1, none⟩ = some (.int .i64 z.2) := fun i => by
        by_cases hi : i < len
        · obtain ⟨c0, c1, t0, t1⟩ := hx i (by omega)
          obtain ⟨x, h1, _, _⟩ := DataW.trod_int Try.underlying2 t0
          obtain ⟨y, h2, _, _⟩ := DataW.trod_int Try.underlying2 t1
          simp only [List.cons.injEq, and_true] at h1 h2
          rw [h1] at c0
          rw [h2] at c1
          rw [add_flat] at c0 c1
          exact ⟨(x, y), fun _ => ⟨c0, c1⟩⟩
        · exact ⟨(0, 0), fun h => absurd h hi⟩
      exact ⟨_, len, cap, fun i => (Classical.choose (key i)).1, fun i => (Classical.choose (key i)).2, rfl, Nat.le_trans hl hm, fun _ => ⟨hl, hm⟩, fun _ => ⟨b, off, rfl, hbw, fun i hi => Classical.choose_spec (key i) hi⟩⟩
theorem topPair_walk (v u : Value) (w : World) (h : PairArg w v) (k : PairArg w u) :
    Calls Try.prog 3 #[v, u] w fun e w' => e = .returned (.bool true) ∧ Below w.heap.size w w' := by
  obtain ⟨q, n, c, A, B, rfl, hW⟩ := h
  obtain ⟨p, m, d, U, D, rfl, hS⟩ := k
  exact pair_any q p n c m d A B U D w hW hS
end Go.Proofs.Ytkhklhibimihfaa
