/- The inverse functions of package trig: what each call returns. -/
import Derived.Test.YtfchbgcgdcoplaaTrigW
import Derived.Deep.QuietTactic
import Derived.BigQuiet
import Derived.WalkSmall
namespace Go.Proofs.Ytfchbgcgdcoplaa
open Go.RowKit Fdk
set_option linter.unusedVariables false

/-- the world has at most drawn. -/
def Drew (w w' : World) : Prop := ∃ q, w' = w.drewN q

theorem quiet_same {P : Program} {f : FuncId} {args : Array Value} {w : World} {n : Nat} {v : Value}
    (h : Calls P f args (w.drewN n) fun e w' => e = .returned v ∧ w.drewN n = w') : Calls P f args (w.drewN n) fun e w'' => e = .returned v ∧ ∃ m, w'' = w.drewN m :=
  h.mono fun _ _ ⟨he, hm⟩ => ⟨he, n, hm.symm⟩
theorem sm_b {s m : Int} (h0 : -1073741824 ≤ s) (h1 : s ≤ 1073741824) (h2 : 0 ≤ m) (h3 : m ≤ 2147483648) : -2305843009213693952 ≤ s * m ∧ s * m ≤ 2305843009213693952 := by
  have k1 : s * m ≤ 1073741824 * m := Int.mul_le_mul_of_nonneg_right h1 h2
  have k2 : -1073741824 * m ≤ s * m := Int.mul_le_mul_of_nonneg_right h0 h2
  generalize s * m = P at *
  omega
theorem okc_def (m n : Int) (c : Nat) : okc m n c = decide (sn c * m ≤ cn c * n) := rfl
theorem Drew.refl (w : World) : Drew w w := ⟨0, rfl⟩
theorem Drew.trans {a b c : World} (h : Drew a b) (k : Drew b c) : Drew a c := by
  obtain ⟨p, rfl⟩ := h; obtain ⟨q, rfl⟩ := k; exact ⟨p + q, World.drewN_drewN _ _ _⟩
theorem Drew.below {a b : World} (h : Drew a b) (B : Nat) : Below B a b := by
  obtain ⟨p, rfl⟩ := h; exact below_drewN (Below.refl _ _) _
/-- a box of one cell, as it was laid. -/
structure One (w : World) (b : Nat) (x : Value) : Prop where
  c0 : w.cell? ⟨b, 0, none⟩ = some x
  f0 : w.frozen? ⟨b, 0, none⟩ = false
  lt : b < w.heap.size
theorem one_new (w : World) (x : Value) (t : TypeId) : One (w.alloc (.cells #[x] t)) w.heap.size x := by
  have e : (w.alloc (.cells #[x] t)).heap[w.heap.size]? = some (.cells #[x] t) := by show (w.heap.push _)[w.heap.size]? = _; simp
  exact ⟨by simp only [World.cell?, e]; rfl, by simp only [World.frozen?, e]; rfl, by show _ < (w.heap.push _).size; simp⟩
theorem One.below {w w1 : World} {b B : Nat} {x : Value} (h : One w b x) (hb : Below B w w1) (hB : b < B) : One w1 b x :=
  ⟨(hb.cell (p := ⟨b, 0, none⟩) hB).trans h.c0, (hb.frozen (p := ⟨b, 0, none⟩) hB).trans h.f0, Nat.lt_of_lt_of_le h.lt hb.size⟩
theorem One.alloc {w : World} {b : Nat} {x : Value} (h : One w b x) (o : Obj) : One (w.alloc o) b x :=
  h.below ((Below.refl w.heap.size w).alloc (Nat.le_refl _) o) h.lt
theorem One.drew {w w1 : World} {b : Nat} {x : Value} (h : One w b x) (hd : Drew w w1) : One w1 b x := h.below (hd.below (b + 1)) (Nat.lt_succ_self _)
/-- a block of two cells, as it was laid. -/
structure Cell2 (w : World) (b : Nat) (x y : Value) : Prop where
  c0 : w.cell? ⟨b, 0, none⟩ = some x
  c1 : w.cell? ⟨b, 1, none⟩ = some y
  f0 : w.frozen? ⟨b, 0, none⟩ = false
  f1 : w.frozen? ⟨b, 1, none⟩ = false
  lt : b < w.heap.size
theorem cell2_new (w : World) (x y : Value) (t : TypeId) : Cell2 (w.alloc (.cells #[x, y] t)) w.heap.size x y := by
  have e : (w.alloc (.cells #[x, y] t)).heap[w.heap.size]? = some (.cells #[x, y] t) := by show (w.heap.push _)[w.heap.size]? = _; simp
  exact ⟨by simp only [World.cell?, e]; rfl, by simp only [World.cell?, e]; rfl, by simp only [World.frozen?, e]; rfl, by simp only [World.frozen?, e]; rfl, by show _ < (w.heap.push _).size; simp⟩
theorem Cell2.below {w w1 : World} {b B : Nat} {x y : Value} (h : Cell2 w b x y) (hb : Below B w w1) (hB : b < B) : Cell2 w1 b x y :=
  ⟨(hb.cell (p := ⟨b, 0, none⟩) hB).trans h.c0, (hb.cell (p := ⟨b, 1, none⟩) hB).trans h.c1, (hb.frozen (p := ⟨b, 0, none⟩) hB).trans h.f0, (hb.frozen (p := ⟨b, 1, none⟩) hB).trans h.f1, Nat.lt_of_lt_of_le h.lt hb.size⟩
end Go.Proofs.Ytfchbgcgdcoplaa
