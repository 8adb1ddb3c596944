/- Blocks of some cells, as they were laid, and what keeps them; no function in sight. -/
import Derived.Test.YtpgpdglmgpjhlaaAngle
import Derived.Lib.SmallJoins
namespace Go.Proofs.Ytpgpdglmgpjhlaa
open Go.RowKit Go.Joins
set_option linter.unusedVariables false
theorem thn {a b c : World} (h : Below a.heap.size a b) (k : Below b.heap.size b c) : Below a.heap.size a c := h.trans (k.mono h.size)
theorem alc {a b : World} (h : Below a.heap.size a b) (o : Obj) : Below a.heap.size a (b.alloc o) := h.alloc h.size o
theorem csame {w : World} {a : Addr} {v u : Value} (h : w.cell? a = some u) : (w.setCell a v).cell? a = some v := World.cell?_setCell_same' w a v (by rw [h]; rfl)
theorem cother {w : World} {a b : Addr} {v : Value} (h : a ≠ b) : (w.setCell a v).cell? b = w.cell? b := World.cell?_setCell_other _ _ _ _ h

/-- a block of 1 cells. -/
structure C1 (w : World) (b : Nat) (x0 : Value) : Prop where
  c0 : w.cell? ⟨b, 0, none⟩ = some x0
  f0 : w.frozen? ⟨b, 0, none⟩ = false
  lt : b < w.heap.size
theorem c1_new (w : World) (x0 : Value) (t : TypeId) : C1 (w.alloc (.cells #[x0] t)) w.heap.size x0 := by
  have e : (w.alloc (.cells #[x0] t)).heap[w.heap.size]? = some (.cells #[x0] t) := by show (w.heap.push _)[w.heap.size]? = _; simp
  exact ⟨by simp only [World.cell?, e]; rfl, by simp only [World.frozen?, e]; rfl, by show _ < (w.heap.push _).size; simp⟩
theorem C1.below {w w1 : World} {b B : Nat} {x0 : Value} (h : C1 w b x0) (hb : Below B w w1) (hB : b < B) : C1 w1 b x0 :=
  ⟨(hb.cell (p := ⟨b, 0, none⟩) hB).trans h.c0, (hb.frozen (p := ⟨b, 0, none⟩) hB).trans h.f0, Nat.lt_of_lt_of_le h.lt hb.size⟩
theorem C1.next {w w1 : World} {b : Nat} {x0 : Value} (h : C1 w b x0) (hb : Below w.heap.size w w1) : C1 w1 b x0 := h.below hb h.lt
theorem C1.alc {w : World} {b : Nat} {x0 : Value} (h : C1 w b x0) (o : Obj) : C1 (w.alloc o) b x0 := h.next (below_alloc1 w o)
theorem C1.drew {w : World} {b : Nat} {x0 : Value} (h : C1 w b x0) : C1 w.drew b x0 := h.next (below_draws _ w 1)
theorem C1.else {w : World} {b : Nat} {x0 : Value} (h : C1 w b x0) {p : Addr} (hp : p.block ≠ b) (v : Value) : C1 (w.setCell p v) b x0 :=
  ⟨(cother (fun e => hp (by rw [e]))).trans h.c0, by simp [h.f0], by simp [h.lt]⟩
theorem C1.put0 {w : World} {b : Nat} {x0 : Value} (h : C1 w b x0) (v : Value) : C1 (w.setCell ⟨b, 0, none⟩ v) b v :=
  ⟨csame h.c0, by simp [h.f0], by simp [h.lt]⟩
theorem C1.put {w : World} {b : Nat} {x0 : Value} (h : C1 w b x0) (y0 : Value) : C1 (w.setCell ⟨b, 0, none⟩ y0) b y0 := (h.put0 y0)
theorem below_put1 {a w : World} {b : Nat} (h : Below a.heap.size a w) (hb : a.heap.size ≤ b) (y0 : Value) : Below a.heap.size a (w.setCell ⟨b, 0, none⟩ y0) := (h.setCell (p := ⟨b, 0, none⟩) hb y0)
/-- a block of 2 cells. -/
structure C2 (w : World) (b : Nat) (x0 x1 : Value) : Prop where
  c0 : w.cell? ⟨b, 0, none⟩ = some x0
  c1 : w.cell? ⟨b, 1, none⟩ = some x1
  f0 : w.frozen? ⟨b, 0, none⟩ = false
  f1 : w.frozen? ⟨b, 1, none⟩ = false
  lt : b < w.heap.size
theorem c2_new (w : World) (x0 x1 : Value) (t : TypeId) : C2 (w.alloc (.cells #[x0, x1] t)) w.heap.size x0 x1 := by
  have e : (w.alloc (.cells #[x0, x1] t)).heap[w.heap.size]? = some (.cells #[x0, x1] t) := by show (w.heap.push _)[w.heap.size]? = _; simp
  exact ⟨by simp only [World.cell?, e]; rfl, by simp only [World.cell?, e]; rfl, by simp only [World.frozen?, e]; rfl, by simp only [World.frozen?, e]; rfl, by show _ < (w.heap.push _).size; simp⟩
theorem C2.below {w w1 : World} {b B : Nat} {x0 x1 : Value} (h : C2 w b x0 x1) (hb : Below B w w1) (hB : b < B) : C2 w1 b x0 x1 :=
  ⟨(hb.cell (p := ⟨b, 0, none⟩) hB).trans h.c0, (hb.cell (p := ⟨b, 1, none⟩) hB).trans h.c1, (hb.frozen (p := ⟨b, 0, none⟩) hB).trans h.f0, (hb.frozen (p := ⟨b, 1, none⟩) hB).trans h.f1, Nat.lt_of_lt_of_le h.lt hb.size⟩
theorem C2.next {w w1 : World} {b : Nat} {x0 x1 : Value} (h : C2 w b x0 x1) (hb : Below w.heap.size w w1) : C2 w1 b x0 x1 := h.below hb h.lt
theorem C2.alc {w : World} {b : Nat} {x0 x1 : Value} (h : C2 w b x0 x1) (o : Obj) : C2 (w.alloc o) b x0 x1 := h.next (below_alloc1 w o)
theorem C2.drew {w : World} {b : Nat} {x0 x1 : Value} (h : C2 w b x0 x1) : C2 w.drew b x0 x1 := h.next (below_draws _ w 1)
theorem C2.else {w : World} {b : Nat} {x0 x1 : Value} (h : C2 w b x0 x1) {p : Addr} (hp : p.block ≠ b) (v : Value) : C2 (w.setCell p v) b x0 x1 :=
  ⟨(cother (fun e => hp (by rw [e]))).trans h.c0, (cother (fun e => hp (by rw [e]))).trans h.c1, by simp [h.f0], by simp [h.f1], by simp [h.lt]⟩
theorem C2.put0 {w : World} {b : Nat} {x0 x1 : Value} (h : C2 w b x0 x1) (v : Value) : C2 (w.setCell ⟨b, 0, none⟩ v) b v x1 :=
  ⟨csame h.c0, (cother (by simp)).trans h.c1, by simp [h.f0], by simp [h.f1], by simp [h.lt]⟩
theorem C2.put1 {w : World} {b : Nat} {x0 x1 : Value} (h : C2 w b x0 x1) (v : Value) : C2 (w.setCell ⟨b, 1, none⟩ v) b x0 v :=
  ⟨(cother (by simp)).trans h.c0, csame h.c1, by simp [h.f0], by simp [h.f1], by simp [h.lt]⟩
theorem C2.put {w : World} {b : Nat} {x0 x1 : Value} (h : C2 w b x0 x1) (y0 y1 : Value) : C2 ((w.setCell ⟨b, 0, none⟩ y0).setCell ⟨b, 1, none⟩ y1) b y0 y1 := ((h.put0 y0).put1 y1)
theorem below_put2 {a w : World} {b : Nat} (h : Below a.heap.size a w) (hb : a.heap.size ≤ b) (y0 y1 : Value) : Below a.heap.size a ((w.setCell ⟨b, 0, none⟩ y0).setCell ⟨b, 1, none⟩ y1) := ((h.setCell (p := ⟨b, 0, none⟩) hb y0).setCell (p := ⟨b, 1, none⟩) hb y1)
/-- a block of 3 cells. -/
structure C3 (w : World) (b : Nat) (x0 x1 x2 : Value) : Prop where
  c0 : w.cell? ⟨b, 0, none⟩ = some x0
  c1 : w.cell? ⟨b, 1, none⟩ = some x1
  c2 : w.cell? ⟨b, 2, none⟩ = some x2
  f0 : w.frozen? ⟨b, 0, none⟩ = false
  f1 : w.frozen? ⟨b, 1, none⟩ = false
  f2 : w.frozen? ⟨b, 2, none⟩ = false
  lt : b < w.heap.size
theorem c3_new (w : World) (x0 x1 x2 : Value) (t : TypeId) : C3 (w.alloc (.cells #[x0, x1, x2] t)) w.heap.size x0 x1 x2 := by
  have e : (w.alloc (.cells #[x0, x1, x2] t)).heap[w.heap.size]? = some (.cells #[x0, x1, x2] t) := by show (w.heap.push _)[w.heap.size]? = _; simp
  exact ⟨by simp only [World.cell?, e]; rfl, by simp only [World.cell?, e]; rfl, by simp only [World.cell?, e]; rfl, by simp only [World.frozen?, e]; rfl, by simp only [World.frozen?, e]; rfl, by simp only [World.frozen?, e]; rfl, by show _ < (w.heap.push _).size; simp⟩
theorem C3.below {w w1 : World} {b B : Nat} {x0 x1 x2 : Value} (h : C3 w b x0 x1 x2) (hb : Below B w w1) (hB : b < B) : C3 w1 b x0 x1 x2 :=
  ⟨(hb.cell (p := ⟨b, 0, none⟩) hB).trans h.c0, (hb.cell (p := ⟨b, 1, none⟩) hB).trans h.c1, (hb.cell (p := ⟨b, 2, none⟩) hB).trans h.c2, (hb.frozen (p := ⟨b, 0, none⟩) hB).trans h.f0, (hb.frozen (p := ⟨b, 1, none⟩) hB).trans h.f1, (hb.frozen (p := ⟨b, 2, none⟩) hB).trans h.f2, Nat.lt_of_lt_of_le h.lt hb.size⟩
theorem C3.next {w w1 : World} {b : Nat} {x0 x1 x2 : Value} (h : C3 w b x0 x1 x2) (hb : Below w.heap.size w w1) : C3 w1 b x0 x1 x2 := h.below hb h.lt
theorem C3.alc {w : World} {b : Nat} {x0 x1 x2 : Value} (h : C3 w b x0 x1 x2) (o : Obj) : C3 (w.alloc o) b x0 x1 x2 := h.next (below_alloc1 w o)
theorem C3.drew {w : World} {b : Nat} {x0 x1 x2 : Value} (h : C3 w b x0 x1 x2) : C3 w.drew b x0 x1 x2 := h.next (below_draws _ w 1)
theorem C3.else {w : World} {b : Nat} {x0 x1 x2 : Value} (h : C3 w b x0 x1 x2) {p : Addr} (hp : p.block ≠ b) (v : Value) : C3 (w.setCell p v) b x0 x1 x2 :=
  ⟨(cother (fun e => hp (by rw [e]))).trans h.c0, (cother (fun e => hp (by rw [e]))).trans h.c1, (cother (fun e => hp (by rw [e]))).trans h.c2, by simp [h.f0], by simp [h.f1], by simp [h.f2], by simp [h.lt]⟩
theorem C3.put0 {w : World} {b : Nat} {x0 x1 x2 : Value} (h : C3 w b x0 x1 x2) (v : Value) : C3 (w.setCell ⟨b, 0, none⟩ v) b v x1 x2 :=
  ⟨csame h.c0, (cother (by simp)).trans h.c1, (cother (by simp)).trans h.c2, by simp [h.f0], by simp [h.f1], by simp [h.f2], by simp [h.lt]⟩
theorem C3.put1 {w : World} {b : Nat} {x0 x1 x2 : Value} (h : C3 w b x0 x1 x2) (v : Value) : C3 (w.setCell ⟨b, 1, none⟩ v) b x0 v x2 :=
  ⟨(cother (by simp)).trans h.c0, csame h.c1, (cother (by simp)).trans h.c2, by simp [h.f0], by simp [h.f1], by simp [h.f2], by simp [h.lt]⟩
theorem C3.put2 {w : World} {b : Nat} {x0 x1 x2 : Value} (h : C3 w b x0 x1 x2) (v : Value) : C3 (w.setCell ⟨b, 2, none⟩ v) b x0 x1 v :=
  ⟨(cother (by simp)).trans h.c0, (cother (by simp)).trans h.c1, csame h.c2, by simp [h.f0], by simp [h.f1], by simp [h.f2], by simp [h.lt]⟩
theorem C3.put {w : World} {b : Nat} {x0 x1 x2 : Value} (h : C3 w b x0 x1 x2) (y0 y1 y2 : Value) : C3 (((w.setCell ⟨b, 0, none⟩ y0).setCell ⟨b, 1, none⟩ y1).setCell ⟨b, 2, none⟩ y2) b y0 y1 y2 := (((h.put0 y0).put1 y1).put2 y2)
theorem below_put3 {a w : World} {b : Nat} (h : Below a.heap.size a w) (hb : a.heap.size ≤ b) (y0 y1 y2 : Value) : Below a.heap.size a (((w.setCell ⟨b, 0, none⟩ y0).setCell ⟨b, 1, none⟩ y1).setCell ⟨b, 2, none⟩ y2) := (((h.setCell (p := ⟨b, 0, none⟩) hb y0).setCell (p := ⟨b, 1, none⟩) hb y1).setCell (p := ⟨b, 2, none⟩) hb y2)
/-- a block of 4 cells. -/
structure C4 (w : World) (b : Nat) (x0 x1 x2 x3 : Value) : Prop where
  c0 : w.cell? ⟨b, 0, none⟩ = some x0
  c1 : w.cell? ⟨b, 1, none⟩ = some x1
  c2 : w.cell? ⟨b, 2, none⟩ = some x2
  c3 : w.cell? ⟨b, 3, none⟩ = some x3
  f0 : w.frozen? ⟨b, 0, none⟩ = false
  f1 : w.frozen? ⟨b, 1, none⟩ = false
  f2 : w.frozen? ⟨b, 2, none⟩ = false
  f3 : w.frozen? ⟨b, 3, none⟩ = false
  lt : b < w.heap.size
theorem c4_new (w : World) (x0 x1 x2 x3 : Value) (t : TypeId) : C4 (w.alloc (.cells #[x0, x1, x2, x3] t)) w.heap.size x0 x1 x2 x3 := by
  have e : (w.alloc (.cells #[x0, x1, x2, x3] t)).heap[w.heap.size]? = some (.cells #[x0, x1, x2, x3] t) := by show (w.heap.push _)[w.heap.size]? = _; simp
  exact ⟨by simp only [World.cell?, e]; rfl, by simp only [World.cell?, e]; rfl, by simp only [World.cell?, e]; rfl, by simp only [World.cell?, e]; rfl, by simp only [World.frozen?, e]; rfl, by simp only [World.frozen?, e]; rfl, by simp only [World.frozen?, e]; rfl, by simp only [World.frozen?, e]; rfl, by show _ < (w.heap.push _).size; simp⟩
theorem C4.below {w w1 : World} {b B : Nat} {x0 x1 x2 x3 : Value} (h : C4 w b x0 x1 x2 x3) (hb : Below B w w1) (hB : b < B) : C4 w1 b x0 x1 x2 x3 :=
  ⟨(hb.cell (p := ⟨b, 0, none⟩) hB).trans h.c0, (hb.cell (p := ⟨b, 1, none⟩) hB).trans h.c1, (hb.cell (p := ⟨b, 2, none⟩) hB).trans h.c2, (hb.cell (p := ⟨b, 3, none⟩) hB).trans h.c3, (hb.frozen (p := ⟨b, 0, none⟩) hB).trans h.f0, (hb.frozen (p := ⟨b, 1, none⟩) hB).trans h.f1, (hb.frozen (p := ⟨b, 2, none⟩) hB).trans h.f2, (hb.frozen (p := ⟨b, 3, none⟩) hB).trans h.f3, Nat.lt_of_lt_of_le h.lt hb.size⟩
theorem C4.next {w w1 : World} {b : Nat} {x0 x1 x2 x3 : Value} (h : C4 w b x0 x1 x2 x3) (hb : Below w.heap.size w w1) : C4 w1 b x0 x1 x2 x3 := h.below hb h.lt
theorem C4.alc {w : World} {b : Nat} {x0 x1 x2 x3 : Value} (h : C4 w b x0 x1 x2 x3) (o : Obj) : C4 (w.alloc o) b x0 x1 x2 x3 := h.next (below_alloc1 w o)
theorem C4.drew {w : World} {b : Nat} {x0 x1 x2 x3 : Value} (h : C4 w b x0 x1 x2 x3) : C4 w.drew b x0 x1 x2 x3 := h.next (below_draws _ w 1)
theorem C4.else {w : World} {b : Nat} {x0 x1 x2 x3 : Value} (h : C4 w b x0 x1 x2 x3) {p : Addr} (hp : p.block ≠ b) (v : Value) : C4 (w.setCell p v) b x0 x1 x2 x3 :=
  ⟨(cother (fun e => hp (by rw [e]))).trans h.c0, (cother (fun e => hp (by rw [e]))).trans h.c1, (cother (fun e => hp (by rw [e]))).trans h.c2, (cother (fun e => hp (by rw [e]))).trans h.c3, by simp [h.f0], by simp [h.f1], by simp [h.f2], by simp [h.f3], by simp [h.lt]⟩
theorem C4.put0 {w : World} {b : Nat} {x0 x1 x2 x3 : Value} (h : C4 w b x0 x1 x2 x3) (v : Value) : C4 (w.setCell ⟨b, 0, none⟩ v) b v x1 x2 x3 :=
  ⟨csame h.c0, (cother (by simp)).trans h.c1, (cother (by simp)).trans h.c2, (cother (by simp)).trans h.c3, by simp [h.f0], by simp [h.f1], by simp [h.f2], by simp [h.f3], by simp [h.lt]⟩
theorem C4.put1 {w : World} {b : Nat} {x0 x1 x2 x3 : Value} (h : C4 w b x0 x1 x2 x3) (v : Value) : C4 (w.setCell ⟨b, 1, none⟩ v) b x0 v x2 x3 :=
  ⟨(cother (by simp)).trans h.c0, csame h.c1, (cother (by simp)).trans h.c2, (cother (by simp)).trans h.c3, by simp [h.f0], by simp [h.f1], by simp [h.f2], by simp [h.f3], by simp [h.lt]⟩
theorem C4.put2 {w : World} {b : Nat} {x0 x1 x2 x3 : Value} (h : C4 w b x0 x1 x2 x3) (v : Value) : C4 (w.setCell ⟨b, 2, none⟩ v) b x0 x1 v x3 :=
  ⟨(cother (by simp)).trans h.c0, (cother (by simp)).trans h.c1, csame h.c2, (cother (by simp)).trans h.c3, by simp [h.f0], by simp [h.f1], by simp [h.f2], by simp [h.f3], by simp [h.lt]⟩
theorem C4.put3 {w : World} {b : Nat} {x0 x1 x2 x3 : Value} (h : C4 w b x0 x1 x2 x3) (v : Value) : C4 (w.setCell ⟨b, 3, none⟩ v) b x0 x1 x2 v :=
  ⟨(cother (by simp)).trans h.c0, (cother (by simp)).trans h.c1, (cother (by simp)).trans h.c2, csame h.c3, by simp [h.f0], by simp [h.f1], by simp [h.f2], by simp [h.f3], by simp [h.lt]⟩
theorem C4.put {w : World} {b : Nat} {x0 x1 x2 x3 : Value} (h : C4 w b x0 x1 x2 x3) (y0 y1 y2 y3 : Value) : C4 ((((w.setCell ⟨b, 0, none⟩ y0).setCell ⟨b, 1, none⟩ y1).setCell ⟨b, 2, none⟩ y2).setCell ⟨b, 3, none⟩ y3) b y0 y1 y2 y3 := ((((h.put0 y0).put1 y1).put2 y2).put3 y3)
theorem below_put4 {a w : World} {b : Nat} (h : Below a.heap.size a w) (hb : a.heap.size ≤ b) (y0 y1 y2 y3 : Value) : Below a.heap.size a ((((w.setCell ⟨b, 0, none⟩ y0).setCell ⟨b, 1, none⟩ y1).setCell ⟨b, 2, none⟩ y2).setCell ⟨b, 3, none⟩ y3) := ((((h.setCell (p := ⟨b, 0, none⟩) hb y0).setCell (p := ⟨b, 1, none⟩) hb y1).setCell (p := ⟨b, 2, none⟩) hb y2).setCell (p := ⟨b, 3, none⟩) hb y3)
/-- a block of 9 cells. -/
structure C9 (w : World) (b : Nat) (x0 x1 x2 x3 x4 x5 x6 x7 x8 : Value) : Prop where
  c0 : w.cell? ⟨b, 0, none⟩ = some x0
  c1 : w.cell? ⟨b, 1, none⟩ = some x1
  c2 : w.cell? ⟨b, 2, none⟩ = some x2
  c3 : w.cell? ⟨b, 3, none⟩ = some x3
  c4 : w.cell? ⟨b, 4, none⟩ = some x4
  c5 : w.cell? ⟨b, 5, none⟩ = some x5
  c6 : w.cell? ⟨b, 6, none⟩ = some x6
  c7 : w.cell? ⟨b, 7, none⟩ = some x7
  c8 : w.cell? ⟨b, 8, none⟩ = some x8
  f0 : w.frozen? ⟨b, 0, none⟩ = false
  f1 : w.frozen? ⟨b, 1, none⟩ = false
  f2 : w.frozen? ⟨b, 2, none⟩ = false
  f3 : w.frozen? ⟨b, 3, none⟩ = false
  f4 : w.frozen? ⟨b, 4, none⟩ = false
  f5 : w.frozen? ⟨b, 5, none⟩ = false
  f6 : w.frozen? ⟨b, 6, none⟩ = false
  f7 : w.frozen? ⟨b, 7, none⟩ = false
  f8 : w.frozen? ⟨b, 8, none⟩ = false
  lt : b < w.heap.size
theorem c9_new (w : World) (x0 x1 x2 x3 x4 x5 x6 x7 x8 : Value) (t : TypeId) : C9 (w.alloc (.cells #[x0, x1, x2, x3, x4, x5, x6, x7, x8] t)) w.heap.size x0 x1 x2 x3 x4 x5 x6 x7 x8 := by
  have e : (w.alloc (.cells #[x0, x1, x2, x3, x4, x5, x6, x7, x8] t)).heap[w.heap.size]? = some (.cells #[x0, x1, x2, x3, x4, x5, x6, x7, x8] t) := by show (w.heap.push _)[w.heap.size]? = _; simp
  exact ⟨by simp only [World.cell?, e]; rfl, by simp only [World.cell?, e]; rfl, by simp only [World.cell?, e]; rfl, by simp only [World.cell?, e]; rfl, by simp only [World.cell?, e]; rfl, by simp only [World.cell?, e]; rfl, by simp only [World.cell?, e]; rfl, by simp only [World.cell?, e]; rfl, by simp only [World.cell?, e]; rfl, by simp only [World.frozen?, e]; rfl, by simp only [World.frozen?, e]; rfl, by simp only [World.frozen?, e]; rfl, by simp only [World.frozen?, e]; rfl, by simp only [World.frozen?, e]; rfl, by simp only [World.frozen?, e]; rfl, by simp only [World.frozen?, e]; rfl, by simp only [World.frozen?, e]; rfl, by simp only [World.frozen?, e]; rfl, by show _ < (w.heap.push _).size; simp⟩
theorem C9.below {w w1 : World} {b B : Nat} {x0 x1 x2 x3 x4 x5 x6 x7 x8 : Value} (h : C9 w b x0 x1 x2 x3 x4 x5 x6 x7 x8) (hb : Below B w w1) (hB : b < B) : C9 w1 b x0 x1 x2 x3 x4 x5 x6 x7 x8 :=
  ⟨(hb.cell (p := ⟨b, 0, none⟩) hB).trans h.c0, (hb.cell (p := ⟨b, 1, none⟩) hB).trans h.c1, (hb.cell (p := ⟨b, 2, none⟩) hB).trans h.c2, (hb.cell (p := ⟨b, 3, none⟩) hB).trans h.c3, (hb.cell (p := ⟨b, 4, none⟩) hB).trans h.c4, (hb.cell (p := ⟨b, 5, none⟩) hB).trans h.c5, (hb.cell (p := ⟨b, 6, none⟩) hB).trans h.c6, (hb.cell (p := ⟨b, 7, none⟩) hB).trans h.c7, (hb.cell (p := ⟨b, 8, none⟩) hB).trans h.c8, (hb.frozen (p := ⟨b, 0, none⟩) hB).trans h.f0, (hb.frozen (p := ⟨b, 1, none⟩) hB).trans h.f1, (hb.frozen (p := ⟨b, 2, none⟩) hB).trans h.f2, (hb.frozen (p := ⟨b, 3, none⟩) hB).trans h.f3, (hb.frozen (p := ⟨b, 4, none⟩) hB).trans h.f4, (hb.frozen (p := ⟨b, 5, none⟩) hB).trans h.f5, (hb.frozen (p := ⟨b, 6, none⟩) hB).trans h.f6, (hb.frozen (p := ⟨b, 7, none⟩) hB).trans h.f7, (hb.frozen (p := ⟨b, 8, none⟩) hB).trans h.f8, Nat.lt_of_lt_of_le h.lt hb.size⟩
theorem C9.next {w w1 : World} {b : Nat} {x0 x1 x2 x3 x4 x5 x6 x7 x8 : Value} (h : C9 w b x0 x1 x2 x3 x4 x5 x6 x7 x8) (hb : Below w.heap.size w w1) : C9 w1 b x0 x1 x2 x3 x4 x5 x6 x7 x8 := h.below hb h.lt
theorem C9.alc {w : World} {b : Nat} {x0 x1 x2 x3 x4 x5 x6 x7 x8 : Value} (h : C9 w b x0 x1 x2 x3 x4 x5 x6 x7 x8) (o : Obj) : C9 (w.alloc o) b x0 x1 x2 x3 x4 x5 x6 x7 x8 := h.next (below_alloc1 w o)
theorem C9.drew {w : World} {b : Nat} {x0 x1 x2 x3 x4 x5 x6 x7 x8 : Value} (h : C9 w b x0 x1 x2 x3 x4 x5 x6 x7 x8) : C9 w.drew b x0 x1 x2 x3 x4 x5 x6 x7 x8 := h.next (below_draws _ w 1)
theorem C9.else {w : World} {b : Nat} {x0 x1 x2 x3 x4 x5 x6 x7 x8 : Value} (h : C9 w b x0 x1 x2 x3 x4 x5 x6 x7 x8) {p : Addr} (hp : p.block ≠ b) (v : Value) : C9 (w.setCell p v) b x0 x1 x2 x3 x4 x5 x6 x7 x8 :=
  ⟨(cother (fun e => hp (by rw [e]))).trans h.c0, (cother (fun e => hp (by rw [e]))).trans h.c1, (cother (fun e => hp (by rw [e]))).trans h.c2, (cother (fun e => hp (by rw [e]))).trans h.c3, (cother (fun e => hp (by rw [e]))).trans h.c4, (cother (fun e => hp (by rw [e]))).trans h.c5, (cother (fun e => hp (by rw [e]))).trans h.c6, (cother (fun e => hp (by rw [e]))).trans h.c7, (cother (fun e => hp (by rw [e]))).trans h.c8, by simp [h.f0], by simp [h.f1], by simp [h.f2], by simp [h.f3], by simp [h.f4], by simp [h.f5], by simp [h.f6], by simp [h.f7], by simp [h.f8], by simp [h.lt]⟩
theorem C9.put0 {w : World} {b : Nat} {x0 x1 x2 x3 x4 x5 x6 x7 x8 : Value} (h : C9 w b x0 x1 x2 x3 x4 x5 x6 x7 x8) (v : Value) : C9 (w.setCell ⟨b, 0, none⟩ v) b v x1 x2 x3 x4 x5 x6 x7 x8 :=
  ⟨csame h.c0, (cother (by simp)).trans h.c1, (cother (by simp)).trans h.c2, (cother (by simp)).trans h.c3, (cother (by simp)).trans h.c4, (cother (by simp)).trans h.c5, (cother (by simp)).trans h.c6, (cother (by simp)).trans h.c7, (cother (by simp)).trans h.c8, by simp [h.f0], by simp [h.f1], by simp [h.f2], by simp [h.f3], by simp [h.f4], by simp [h.f5], by simp [h.f6], by simp [h.f7], by simp [h.f8], by simp [h.lt]⟩
theorem C9.put1 {w : World} {b : Nat} {x0 x1 x2 x3 x4 x5 x6 x7 x8 : Value} (h : C9 w b x0 x1 x2 x3 x4 x5 x6 x7 x8) (v : Value) : C9 (w.setCell ⟨b, 1, none⟩ v) b x0 v x2 x3 x4 x5 x6 x7 x8 :=
  ⟨(cother (by simp)).trans h.c0, csame h.c1, (cother (by simp)).trans h.c2, (cother (by simp)).trans h.c3, (cother (by simp)).trans h.c4, (cother (by simp)).trans h.c5, (cother (by simp)).trans h.c6, (cother (by simp)).trans h.c7, (cother (by simp)).trans h.c8, by simp [h.f0], by simp [h.f1], by simp [h.f2], by simp [h.f3], by simp [h.f4], by simp [h.f5], by simp [h.f6], by simp [h.f7], by simp [h.f8], by simp [h.lt]⟩
theorem C9.put2 {w : World} {b : Nat} {x0 x1 x2 x3 x4 x5 x6 x7 x8 : Value} (h : C9 w b x0 x1 x2 x3 x4 x5 x6 x7 x8) (v : Value) : C9 (w.setCell ⟨b, 2, none⟩ v) b x0 x1 v x3 x4 x5 x6 x7 x8 :=
  ⟨(cother (by simp)).trans h.c0, (cother (by simp)).trans h.c1, csame h.c2, (cother (by simp)).trans h.c3, (cother (by simp)).trans h.c4, (cother (by simp)).trans h.c5, (cother (by simp)).trans h.c6, (cother (by simp)).trans h.c7, (cother (by simp)).trans h.c8, by simp [h.f0], by simp [h.f1], by simp [h.f2], by simp [h.f3], by simp [h.f4], by simp [h.f5], by simp [h.f6], by simp [h.f7], by simp [h.f8], by simp [h.lt]⟩
theorem C9.put3 {w : World} {b : Nat} {x0 x1 x2 x3 x4 x5 x6 x7 x8 : Value} (h : C9 w b x0 x1 x2 x3 x4 x5 x6 x7 x8) (v : Value) : C9 (w.setCell ⟨b, 3, none⟩ v) b x0 x1 x2 v x4 x5 x6 x7 x8 :=
  ⟨(cother (by simp)).trans h.c0, (cother (by simp)).trans h.c1, (cother (by simp)).trans h.c2, csame h.c3, (cother (by simp)).trans h.c4, (cother (by simp)).trans h.c5, (cother (by simp)).trans h.c6, (cother (by simp)).trans h.c7, (cother (by simp)).trans h.c8, by simp [h.f0], by simp [h.f1], by simp [h.f2], by simp [h.f3], by simp [h.f4], by simp [h.f5], by simp [h.f6], by simp [h.f7], by simp [h.f8], by simp [h.lt]⟩
theorem C9.put4 {w : World} {b : Nat} {x0 x1 x2 x3 x4 x5 x6 x7 x8 : Value} (h : C9 w b x0 x1 x2 x3 x4 x5 x6 x7 x8) (v : Value) : C9 (w.setCell ⟨b, 4, none⟩ v) b x0 x1 x2 x3 v x5 x6 x7 x8 :=
  ⟨(cother (by simp)).trans h.c0, (cother (by simp)).trans h.c1, (cother (by simp)).trans h.c2, (cother (by simp)).trans h.c3, csame h.c4, (cother (by simp)).trans h.c5, (cother (by simp)).trans h.c6, (cother (by simp)).trans h.c7, (cother (by simp)).trans h.c8, by simp [h.f0], by simp [h.f1], by simp [h.f2], by simp [h.f3], by simp [h.f4], by simp [h.f5], by simp [h.f6], by simp [h.f7], by simp [h.f8], by simp [h.lt]⟩
theorem C9.put5 {w : World} {b : Nat} {x0 x1 x2 x3 x4 x5 x6 x7 x8 : Value} (h : C9 w b x0 x1 x2 x3 x4 x5 x6 x7 x8) (v : Value) : C9 (w.setCell ⟨b, 5, none⟩ v) b x0 x1 x2 x3 x4 v x6 x7 x8 :=
  ⟨(cother (by simp)).trans h.c0, (cother (by simp)).trans h.c1, (cother (by simp)).trans h.c2, (cother (by simp)).trans h.c3, (cother (by simp)).trans h.c4, csame h.c5, (cother (by simp)).trans h.c6, (cother (by simp)).trans h.c7, (cother (by simp)).trans h.c8, by simp [h.f0], by simp [h.f1], by simp [h.f2], by simp [h.f3], by simp [h.f4], by simp [h.f5], by simp [h.f6], by simp [h.f7], by simp [h.f8], by simp [h.lt]⟩
theorem C9.put6 {w : World} {b : Nat} {x0 x1 x2 x3 x4 x5 x6 x7 x8 : Value} (h : C9 w b x0 x1 x2 x3 x4 x5 x6 x7 x8) (v : Value) : C9 (w.setCell ⟨b, 6, none⟩ v) b x0 x1 x2 x3 x4 x5 v x7 x8 :=
  ⟨(cother (by simp)).trans h.c0, (cother (by simp)).trans h.c1, (cother (by simp)).trans h.c2, (cother (by simp)).trans h.c3, (cother (by simp)).trans h.c4, (cother (by simp)).trans h.c5, csame h.c6, (cother (by simp)).trans h.c7, (cother (by simp)).trans h.c8, by simp [h.f0], by simp [h.f1], by simp [h.f2], by simp [h.f3], by simp [h.f4], by simp [h.f5], by simp [h.f6], by simp [h.f7], by simp [h.f8], by simp [h.lt]⟩
theorem C9.put7 {w : World} {b : Nat} {x0 x1 x2 x3 x4 x5 x6 x7 x8 : Value} (h : C9 w b x0 x1 x2 x3 x4 x5 x6 x7 x8) (v : Value) : C9 (w.setCell ⟨b, 7, none⟩ v) b x0 x1 x2 x3 x4 x5 x6 v x8 :=
  ⟨(cother (by simp)).trans h.c0, (cother (by simp)).trans h.c1, (cother (by simp)).trans h.c2, (cother (by simp)).trans h.c3, (cother (by simp)).trans h.c4, (cother (by simp)).trans h.c5, (cother (by simp)).trans h.c6, csame h.c7, (cother (by simp)).trans h.c8, by simp [h.f0], by simp [h.f1], by simp [h.f2], by simp [h.f3], by simp [h.f4], by simp [h.f5], by simp [h.f6], by simp [h.f7], by simp [h.f8], by simp [h.lt]⟩
theorem C9.put8 {w : World} {b : Nat} {x0 x1 x2 x3 x4 x5 x6 x7 x8 : Value} (h : C9 w b x0 x1 x2 x3 x4 x5 x6 x7 x8) (v : Value) : C9 (w.setCell ⟨b, 8, none⟩ v) b x0 x1 x2 x3 x4 x5 x6 x7 v :=
  ⟨(cother (by simp)).trans h.c0, (cother (by simp)).trans h.c1, (cother (by simp)).trans h.c2, (cother (by simp)).trans h.c3, (cother (by simp)).trans h.c4, (cother (by simp)).trans h.c5, (cother (by simp)).trans h.c6, (cother (by simp)).trans h.c7, csame h.c8, by simp [h.f0], by simp [h.f1], by simp [h.f2], by simp [h.f3], by simp [h.f4], by simp [h.f5], by simp [h.f6], by simp [h.f7], by simp [h.f8], by simp [h.lt]⟩
theorem C9.put {w : World} {b : Nat} {x0 x1 x2 x3 x4 x5 x6 x7 x8 : Value} (h : C9 w b x0 x1 x2 x3 x4 x5 x6 x7 x8) (y0 y1 y2 y3 y4 y5 y6 y7 y8 : Value) : C9 (((((((((w.setCell ⟨b, 0, none⟩ y0).setCell ⟨b, 1, none⟩ y1).setCell ⟨b, 2, none⟩ y2).setCell ⟨b, 3, none⟩ y3).setCell ⟨b, 4, none⟩ y4).setCell ⟨b, 5, none⟩ y5).setCell ⟨b, 6, none⟩ y6).setCell ⟨b, 7, none⟩ y7).setCell ⟨b, 8, none⟩ y8) b y0 y1 y2 y3 y4 y5 y6 y7 y8 := (((((((((h.put0 y0).put1 y1).put2 y2).put3 y3).put4 y4).put5 y5).put6 y6).put7 y7).put8 y8)
theorem below_put9 {a w : World} {b : Nat} (h : Below a.heap.size a w) (hb : a.heap.size ≤ b) (y0 y1 y2 y3 y4 y5 y6 y7 y8 : Value) : Below a.heap.size a (((((((((w.setCell ⟨b, 0, none⟩ y0).setCell ⟨b, 1, none⟩ y1).setCell ⟨b, 2, none⟩ y2).setCell ⟨b, 3, none⟩ y3).setCell ⟨b, 4, none⟩ y4).setCell ⟨b, 5, none⟩ y5).setCell ⟨b, 6, none⟩ y6).setCell ⟨b, 7, none⟩ y7).setCell ⟨b, 8, none⟩ y8) := (((((((((h.setCell (p := ⟨b, 0, none⟩) hb y0).setCell (p := ⟨b, 1, none⟩) hb y1).setCell (p := ⟨b, 2, none⟩) hb y2).setCell (p := ⟨b, 3, none⟩) hb y3).setCell (p := ⟨b, 4, none⟩) hb y4).setCell (p := ⟨b, 5, none⟩) hb y5).setCell (p := ⟨b, 6, none⟩) hb y6).setCell (p := ⟨b, 7, none⟩) hb y7).setCell (p := ⟨b, 8, none⟩) hb y8)
theorem bdrew (w : World) : Below w.heap.size w w.drew := below_draws _ w 1
theorem c3_new1 (w : World) (o : Obj) (x y z : Value) (t : TypeId) : C3 ((w.alloc o).alloc (.cells #[x, y, z] t)) (w.heap.size + 1) x y z := by
  have h := c3_new (w.alloc o) x y z t
  rw [show (w.alloc o).heap.size = w.heap.size + 1 by simp] at h
  exact h
theorem C3.else3 {w : World} {b b' : Nat} {x y z : Value} (h : C3 w b x y z) (hne : b' ≠ b) (v0 v1 v2 : Value) : C3 (((w.setCell ⟨b', 0, none⟩ v0).setCell ⟨b', 1, none⟩ v1).setCell ⟨b', 2, none⟩ v2) b x y z :=
  ((h.else (p := ⟨b', 0, none⟩) hne v0).else (p := ⟨b', 1, none⟩) hne v1).else (p := ⟨b', 2, none⟩) hne v2
end Go.Proofs.Ytpgpdglmgpjhlaa
