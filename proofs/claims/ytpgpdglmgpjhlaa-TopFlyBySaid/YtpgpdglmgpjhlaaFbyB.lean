/- A block of ten cells; fixed.MulDivUp; courses with their errors. -/
import Derived.Test.YtpgpdglmgpjhlaaFbyA
import Derived.Test.YtpgpdglmgpjhlaaScaleU
namespace Go.Proofs.Ytpgpdglmgpjhlaa
open Go.RowKit Go.Joins Fdk
set_option linter.unusedVariables false
/-- a block of 10 cells. -/
structure C10 (w : World) (b : Nat) (x0 x1 x2 x3 x4 x5 x6 x7 x8 x9 : Value) : Prop where
  c0 : w.cell? ⟨b, 0, none⟩ = some x0
  c1 : w.cell? ⟨b, 1, none⟩ = some x1
  c2 : w.cell? ⟨b, 2, none⟩ = some x2
  c3 : w.cell? ⟨b, 3, none⟩ = some x3
  c4 : w.cell? ⟨b, 4, none⟩ = some x4
  c5 : w.cell? ⟨b, 5, none⟩ = some x5
  c6 : w.cell? ⟨b, 6, none⟩ = some x6
  c7 : w.cell? ⟨b, 7, none⟩ = some x7
  c8 : w.cell? ⟨b, 8, none⟩ = some x8
  c9 : w.cell? ⟨b, 9, none⟩ = some x9
  f0 : w.frozen? ⟨b, 0, none⟩ = false
  f1 : w.frozen? ⟨b, 1, none⟩ = false
  f2 : w.frozen? ⟨b, 2, none⟩ = false
  f3 : w.frozen? ⟨b, 3, none⟩ = false
  f4 : w.frozen? ⟨b, 4, none⟩ = false
  f5 : w.frozen? ⟨b, 5, none⟩ = false
  f6 : w.frozen? ⟨b, 6, none⟩ = false
  f7 : w.frozen? ⟨b, 7, none⟩ = false
  f8 : w.frozen? ⟨b, 8, none⟩ = false
  f9 : w.frozen? ⟨b, 9, none⟩ = false
  lt : b < w.heap.size
theorem c10_new (w : World) (x0 x1 x2 x3 x4 x5 x6 x7 x8 x9 : Value) (t : TypeId) : C10 (w.alloc (.cells #[x0, x1, x2, x3, x4, x5, x6, x7, x8, x9] t)) w.heap.size x0 x1 x2 x3 x4 x5 x6 x7 x8 x9 := by
  have e : (w.alloc (.cells #[x0, x1, x2, x3, x4, x5, x6, x7, x8, x9] t)).heap[w.heap.size]? = some (.cells #[x0, x1, x2, x3, x4, x5, x6, x7, x8, x9] t) := by show (w.heap.push _)[w.heap.size]? = _; simp
  exact ⟨by simp only [World.cell?, e]; rfl, by simp only [World.cell?, e]; rfl, by simp only [World.cell?, e]; rfl, by simp only [World.cell?, e]; rfl, by simp only [World.cell?, e]; rfl, by simp only [World.cell?, e]; rfl, by simp only [World.cell?, e]; rfl, by simp only [World.cell?, e]; rfl, by simp only [World.cell?, e]; rfl, by simp only [World.cell?, e]; rfl, by simp only [World.frozen?, e]; rfl, by simp only [World.frozen?, e]; rfl, by simp only [World.frozen?, e]; rfl, by simp only [World.frozen?, e]; rfl, by simp only [World.frozen?, e]; rfl, by simp only [World.frozen?, e]; rfl, by simp only [World.frozen?, e]; rfl, by simp only [World.frozen?, e]; rfl, by simp only [World.frozen?, e]; rfl, by simp only [World.frozen?, e]; rfl, by show _ < (w.heap.push _).size; simp⟩
theorem C10.below {w w1 : World} {b B : Nat} {x0 x1 x2 x3 x4 x5 x6 x7 x8 x9 : Value} (h : C10 w b x0 x1 x2 x3 x4 x5 x6 x7 x8 x9) (hb : Below B w w1) (hB : b < B) : C10 w1 b x0 x1 x2 x3 x4 x5 x6 x7 x8 x9 :=
  ⟨(hb.cell (p := ⟨b, 0, none⟩) hB).trans h.c0, (hb.cell (p := ⟨b, 1, none⟩) hB).trans h.c1, (hb.cell (p := ⟨b, 2, none⟩) hB).trans h.c2, (hb.cell (p := ⟨b, 3, none⟩) hB).trans h.c3, (hb.cell (p := ⟨b, 4, none⟩) hB).trans h.c4, (hb.cell (p := ⟨b, 5, none⟩) hB).trans h.c5, (hb.cell (p := ⟨b, 6, none⟩) hB).trans h.c6, (hb.cell (p := ⟨b, 7, none⟩) hB).trans h.c7, (hb.cell (p := ⟨b, 8, none⟩) hB).trans h.c8, (hb.cell (p := ⟨b, 9, none⟩) hB).trans h.c9, (hb.frozen (p := ⟨b, 0, none⟩) hB).trans h.f0, (hb.frozen (p := ⟨b, 1, none⟩) hB).trans h.f1, (hb.frozen (p := ⟨b, 2, none⟩) hB).trans h.f2, (hb.frozen (p := ⟨b, 3, none⟩) hB).trans h.f3, (hb.frozen (p := ⟨b, 4, none⟩) hB).trans h.f4, (hb.frozen (p := ⟨b, 5, none⟩) hB).trans h.f5, (hb.frozen (p := ⟨b, 6, none⟩) hB).trans h.f6, (hb.frozen (p := ⟨b, 7, none⟩) hB).trans h.f7, (hb.frozen (p := ⟨b, 8, none⟩) hB).trans h.f8, (hb.frozen (p := ⟨b, 9, none⟩) hB).trans h.f9, Nat.lt_of_lt_of_le h.lt hb.size⟩
theorem C10.next {w w1 : World} {b : Nat} {x0 x1 x2 x3 x4 x5 x6 x7 x8 x9 : Value} (h : C10 w b x0 x1 x2 x3 x4 x5 x6 x7 x8 x9) (hb : Below w.heap.size w w1) : C10 w1 b x0 x1 x2 x3 x4 x5 x6 x7 x8 x9 := h.below hb h.lt
theorem C10.alc {w : World} {b : Nat} {x0 x1 x2 x3 x4 x5 x6 x7 x8 x9 : Value} (h : C10 w b x0 x1 x2 x3 x4 x5 x6 x7 x8 x9) (o : Obj) : C10 (w.alloc o) b x0 x1 x2 x3 x4 x5 x6 x7 x8 x9 := h.next (below_alloc1 w o)
theorem C10.drew {w : World} {b : Nat} {x0 x1 x2 x3 x4 x5 x6 x7 x8 x9 : Value} (h : C10 w b x0 x1 x2 x3 x4 x5 x6 x7 x8 x9) : C10 w.drew b x0 x1 x2 x3 x4 x5 x6 x7 x8 x9 := h.next (below_draws _ w 1)
theorem C10.else {w : World} {b : Nat} {x0 x1 x2 x3 x4 x5 x6 x7 x8 x9 : Value} (h : C10 w b x0 x1 x2 x3 x4 x5 x6 x7 x8 x9) {p : Addr} (hp : p.block ≠ b) (v : Value) : C10 (w.setCell p v) b x0 x1 x2 x3 x4 x5 x6 x7 x8 x9 :=
  ⟨(cother (fun e => hp (by rw [e]))).trans h.c0, (cother (fun e => hp (by rw [e]))).trans h.c1, (cother (fun e => hp (by rw [e]))).trans h.c2, (cother (fun e => hp (by rw [e]))).trans h.c3, (cother (fun e => hp (by rw [e]))).trans h.c4, (cother (fun e => hp (by rw [e]))).trans h.c5, (cother (fun e => hp (by rw [e]))).trans h.c6, (cother (fun e => hp (by rw [e]))).trans h.c7, (cother (fun e => hp (by rw [e]))).trans h.c8, (cother (fun e => hp (by rw [e]))).trans h.c9, by simp [h.f0], by simp [h.f1], by simp [h.f2], by simp [h.f3], by simp [h.f4], by simp [h.f5], by simp [h.f6], by simp [h.f7], by simp [h.f8], by simp [h.f9], by simp [h.lt]⟩
theorem C10.put0 {w : World} {b : Nat} {x0 x1 x2 x3 x4 x5 x6 x7 x8 x9 : Value} (h : C10 w b x0 x1 x2 x3 x4 x5 x6 x7 x8 x9) (v : Value) : C10 (w.setCell ⟨b, 0, none⟩ v) b v x1 x2 x3 x4 x5 x6 x7 x8 x9 :=
  ⟨csame h.c0, (cother (by simp)).trans h.c1, (cother (by simp)).trans h.c2, (cother (by simp)).trans h.c3, (cother (by simp)).trans h.c4, (cother (by simp)).trans h.c5, (cother (by simp)).trans h.c6, (cother (by simp)).trans h.c7, (cother (by simp)).trans h.c8, (cother (by simp)).trans h.c9, by simp [h.f0], by simp [h.f1], by simp [h.f2], by simp [h.f3], by simp [h.f4], by simp [h.f5], by simp [h.f6], by simp [h.f7], by simp [h.f8], by simp [h.f9], by simp [h.lt]⟩
theorem C10.put1 {w : World} {b : Nat} {x0 x1 x2 x3 x4 x5 x6 x7 x8 x9 : Value} (h : C10 w b x0 x1 x2 x3 x4 x5 x6 x7 x8 x9) (v : Value) : C10 (w.setCell ⟨b, 1, none⟩ v) b x0 v x2 x3 x4 x5 x6 x7 x8 x9 :=
  ⟨(cother (by simp)).trans h.c0, csame h.c1, (cother (by simp)).trans h.c2, (cother (by simp)).trans h.c3, (cother (by simp)).trans h.c4, (cother (by simp)).trans h.c5, (cother (by simp)).trans h.c6, (cother (by simp)).trans h.c7, (cother (by simp)).trans h.c8, (cother (by simp)).trans h.c9, by simp [h.f0], by simp [h.f1], by simp [h.f2], by simp [h.f3], by simp [h.f4], by simp [h.f5], by simp [h.f6], by simp [h.f7], by simp [h.f8], by simp [h.f9], by simp [h.lt]⟩
theorem C10.put2 {w : World} {b : Nat} {x0 x1 x2 x3 x4 x5 x6 x7 x8 x9 : Value} (h : C10 w b x0 x1 x2 x3 x4 x5 x6 x7 x8 x9) (v : Value) : C10 (w.setCell ⟨b, 2, none⟩ v) b x0 x1 v x3 x4 x5 x6 x7 x8 x9 :=
  ⟨(cother (by simp)).trans h.c0, (cother (by simp)).trans h.c1, csame h.c2, (cother (by simp)).trans h.c3, (cother (by simp)).trans h.c4, (cother (by simp)).trans h.c5, (cother (by simp)).trans h.c6, (cother (by simp)).trans h.c7, (cother (by simp)).trans h.c8, (cother (by simp)).trans h.c9, by simp [h.f0], by simp [h.f1], by simp [h.f2], by simp [h.f3], by simp [h.f4], by simp [h.f5], by simp [h.f6], by simp [h.f7], by simp [h.f8], by simp [h.f9], by simp [h.lt]⟩
theorem C10.put3 {w : World} {b : Nat} {x0 x1 x2 x3 x4 x5 x6 x7 x8 x9 : Value} (h : C10 w b x0 x1 x2 x3 x4 x5 x6 x7 x8 x9) (v : Value) : C10 (w.setCell ⟨b, 3, none⟩ v) b x0 x1 x2 v x4 x5 x6 x7 x8 x9 :=
  ⟨(cother (by simp)).trans h.c0, (cother (by simp)).trans h.c1, (cother (by simp)).trans h.c2, csame h.c3, (cother (by simp)).trans h.c4, (cother (by simp)).trans h.c5, (cother (by simp)).trans h.c6, (cother (by simp)).trans h.c7, (cother (by simp)).trans h.c8, (cother (by simp)).trans h.c9, by simp [h.f0], by simp [h.f1], by simp [h.f2], by simp [h.f3], by simp [h.f4], by simp [h.f5], by simp [h.f6], by simp [h.f7], by simp [h.f8], by simp [h.f9], by simp [h.lt]⟩
theorem C10.put4 {w : World} {b : Nat} {x0 x1 x2 x3 x4 x5 x6 x7 x8 x9 : Value} (h : C10 w b x0 x1 x2 x3 x4 x5 x6 x7 x8 x9) (v : Value) : C10 (w.setCell ⟨b, 4, none⟩ v) b x0 x1 x2 x3 v x5 x6 x7 x8 x9 :=
  ⟨(cother (by simp)).trans h.c0, (cother (by simp)).trans h.c1, (cother (by simp)).trans h.c2, (cother (by simp)).trans h.c3, csame h.c4, (cother (by simp)).trans h.c5, (cother (by simp)).trans h.c6, (cother (by simp)).trans h.c7, (cother (by simp)).trans h.c8, (cother (by simp)).trans h.c9, by simp [h.f0], by simp [h.f1], by simp [h.f2], by simp [h.f3], by simp [h.f4], by simp [h.f5], by simp [h.f6], by simp [h.f7], by simp [h.f8], by simp [h.f9], by simp [h.lt]⟩
theorem C10.put5 {w : World} {b : Nat} {x0 x1 x2 x3 x4 x5 x6 x7 x8 x9 : Value} (h : C10 w b x0 x1 x2 x3 x4 x5 x6 x7 x8 x9) (v : Value) : C10 (w.setCell ⟨b, 5, none⟩ v) b x0 x1 x2 x3 x4 v x6 x7 x8 x9 :=
  ⟨(cother (by simp)).trans h.c0, (cother (by simp)).trans h.c1, (cother (by simp)).trans h.c2, (cother (by simp)).trans h.c3, (cother (by simp)).trans h.c4, csame h.c5, (cother (by simp)).trans h.c6, (cother (by simp)).trans h.c7, (cother (by simp)).trans h.c8, (cother (by simp)).trans h.c9, by simp [h.f0], by simp [h.f1], by simp [h.f2], by simp [h.f3], by simp [h.f4], by simp [h.f5], by simp [h.f6], by simp [h.f7], by simp [h.f8], by simp [h.f9], by simp [h.lt]⟩
theorem C10.put6 {w : World} {b : Nat} {x0 x1 x2 x3 x4 x5 x6 x7 x8 x9 : Value} (h : C10 w b x0 x1 x2 x3 x4 x5 x6 x7 x8 x9) (v : Value) : C10 (w.setCell ⟨b, 6, none⟩ v) b x0 x1 x2 x3 x4 x5 v x7 x8 x9 :=
  ⟨(cother (by simp)).trans h.c0, (cother (by simp)).trans h.c1, (cother (by simp)).trans h.c2, (cother (by simp)).trans h.c3, (cother (by simp)).trans h.c4, (cother (by simp)).trans h.c5, csame h.c6, (cother (by simp)).trans h.c7, (cother (by simp)).trans h.c8, (cother (by simp)).trans h.c9, by simp [h.f0], by simp [h.f1], by simp [h.f2], by simp [h.f3], by simp [h.f4], by simp [h.f5], by simp [h.f6], by simp [h.f7], by simp [h.f8], by simp [h.f9], by simp [h.lt]⟩
theorem C10.put7 {w : World} {b : Nat} {x0 x1 x2 x3 x4 x5 x6 x7 x8 x9 : Value} (h : C10 w b x0 x1 x2 x3 x4 x5 x6 x7 x8 x9) (v : Value) : C10 (w.setCell ⟨b, 7, none⟩ v) b x0 x1 x2 x3 x4 x5 x6 v x8 x9 :=
  ⟨(cother (by simp)).trans h.c0, (cother (by simp)).trans h.c1, (cother (by simp)).trans h.c2, (cother (by simp)).trans h.c3, (cother (by simp)).trans h.c4, (cother (by simp)).trans h.c5, (cother (by simp)).trans h.c6, csame h.c7, (cother (by simp)).trans h.c8, (cother (by simp)).trans h.c9, by simp [h.f0], by simp [h.f1], by simp [h.f2], by simp [h.f3], by simp [h.f4], by simp [h.f5], by simp [h.f6], by simp [h.f7], by simp [h.f8], by simp [h.f9], by simp [h.lt]⟩
theorem C10.put8 {w : World} {b : Nat} {x0 x1 x2 x3 x4 x5 x6 x7 x8 x9 : Value} (h : C10 w b x0 x1 x2 x3 x4 x5 x6 x7 x8 x9) (v : Value) : C10 (w.setCell ⟨b, 8, none⟩ v) b x0 x1 x2 x3 x4 x5 x6 x7 v x9 :=
  ⟨(cother (by simp)).trans h.c0, (cother (by simp)).trans h.c1, (cother (by simp)).trans h.c2, (cother (by simp)).trans h.c3, (cother (by simp)).trans h.c4, (cother (by simp)).trans h.c5, (cother (by simp)).trans h.c6, (cother (by simp)).trans h.c7, csame h.c8, (cother (by simp)).trans h.c9, by simp [h.f0], by simp [h.f1], by simp [h.f2], by simp [h.f3], by simp [h.f4], by simp [h.f5], by simp [h.f6], by simp [h.f7], by simp [h.f8], by simp [h.f9], by simp [h.lt]⟩
theorem C10.put9 {w : World} {b : Nat} {x0 x1 x2 x3 x4 x5 x6 x7 x8 x9 : Value} (h : C10 w b x0 x1 x2 x3 x4 x5 x6 x7 x8 x9) (v : Value) : C10 (w.setCell ⟨b, 9, none⟩ v) b x0 x1 x2 x3 x4 x5 x6 x7 x8 v :=
  ⟨(cother (by simp)).trans h.c0, (cother (by simp)).trans h.c1, (cother (by simp)).trans h.c2, (cother (by simp)).trans h.c3, (cother (by simp)).trans h.c4, (cother (by simp)).trans h.c5, (cother (by simp)).trans h.c6, (cother (by simp)).trans h.c7, (cother (by simp)).trans h.c8, csame h.c9, by simp [h.f0], by simp [h.f1], by simp [h.f2], by simp [h.f3], by simp [h.f4], by simp [h.f5], by simp [h.f6], by simp [h.f7], by simp [h.f8], by simp [h.f9], by simp [h.lt]⟩
theorem C10.put {w : World} {b : Nat} {x0 x1 x2 x3 x4 x5 x6 x7 x8 x9 : Value} (h : C10 w b x0 x1 x2 x3 x4 x5 x6 x7 x8 x9) (y0 y1 y2 y3 y4 y5 y6 y7 y8 y9 : Value) : C10 ((((((((((w.setCell ⟨b, 0, none⟩ y0).setCell ⟨b, 1, none⟩ y1).setCell ⟨b, 2, none⟩ y2).setCell ⟨b, 3, none⟩ y3).setCell ⟨b, 4, none⟩ y4).setCell ⟨b, 5, none⟩ y5).setCell ⟨b, 6, none⟩ y6).setCell ⟨b, 7, none⟩ y7).setCell ⟨b, 8, none⟩ y8).setCell ⟨b, 9, none⟩ y9) b y0 y1 y2 y3 y4 y5 y6 y7 y8 y9 := ((((((((((h.put0 y0).put1 y1).put2 y2).put3 y3).put4 y4).put5 y5).put6 y6).put7 y7).put8 y8).put9 y9)
theorem below_put10 {a w : World} {b : Nat} (h : Below a.heap.size a w) (hb : a.heap.size ≤ b) (y0 y1 y2 y3 y4 y5 y6 y7 y8 y9 : Value) : Below a.heap.size a ((((((((((w.setCell ⟨b, 0, none⟩ y0).setCell ⟨b, 1, none⟩ y1).setCell ⟨b, 2, none⟩ y2).setCell ⟨b, 3, none⟩ y3).setCell ⟨b, 4, none⟩ y4).setCell ⟨b, 5, none⟩ y5).setCell ⟨b, 6, none⟩ y6).setCell ⟨b, 7, none⟩ y7).setCell ⟨b, 8, none⟩ y8).setCell ⟨b, 9, none⟩ y9) := ((((((((((h.setCell (p := ⟨b, 0, none⟩) hb y0).setCell (p := ⟨b, 1, none⟩) hb y1).setCell (p := ⟨b, 2, none⟩) hb y2).setCell (p := ⟨b, 3, none⟩) hb y3).setCell (p := ⟨b, 4, none⟩) hb y4).setCell (p := ⟨b, 5, none⟩) hb y5).setCell (p := ⟨b, 6, none⟩) hb y6).setCell (p := ⟨b, 7, none⟩) hb y7).setCell (p := ⟨b, 8, none⟩) hb y8).setCell (p := ⟨b, 9, none⟩) hb y9)
abbrev flyV (cx cy r f d sx sy ex ey l : Int) : Value := .agg #[.int .i64 cx, .int .i64 cy, .int .i64 r, .int .i64 f, .int .i64 d, .int .i64 sx, .int .i64 sy, .int .i64 ex, .int .i64 ey, .int .i64 l]
theorem mdu_any (a b c : Int) (w : World) (a0 : 0 ≤ a) (a1 : a ≤ 8589934592) (b0 : 0 ≤ b) (b1 : b ≤ 1073741824) (c0 : 1 ≤ c) (c1 : c ≤ 8589934592) (hq : a * b / c ≤ 4611686018427387904) :
    Calls Try.prog 17 #[.int .i64 a, .int .i64 b, .int .i64 c] w fun e w' => e = TwoI (qup (a * b) c) 0 ∧ Drew w w' := by
  have hq : Hid (Calls Try.prog 35 #[.int .i64 a, .int .i64 b, .int .i64 c, .int .u8 1] w fun e w' => e = TwoI (qup (a * b) c) 0 ∧ Drew w w') := by
    have i1 : iabs a = a := by unfold iabs; rw [if_neg (by omega)]
    have i2 : iabs b = b := by unfold iabs; rw [if_neg (by omega)]
    have k0 : 0 ≤ a * b := Int.mul_nonneg a0 b0
    have k2 := pb (p := a) (q := b) (A := 8589934592) (B := 1073741824) 9223372036854775808 (by omega) (by omega) (by omega) (by decide)
    exact Lib.hid (scale1_pp a b c w (by omega) (by omega) (by omega) (by omega) c0 (by omega) (by rw [i1, i2]; omega) (by rw [i1, i2]; exact hq) (lt_dec.1 (by omega)) (lt_dec.1 (by omega)) (by rw [i1, i2]))
  go_enter Try.func17, Try.ntmps17
  go_wp2_with fail
  refine hq.out.mono ?_
  rintro e w' ⟨rfl, hd⟩
  have HD := Lib.hid hd
  clear hd
  go_wp2
  go_ret2
  exact ⟨rfl, HD.out⟩
theorem course_x (a b c d : Int) (h1 : pvd a b = true) (h2 : pvd c d = true) : ∃ X E : Int, (∀ w, Calls Try.prog 4 #[ptV a b, ptV c d] w fun e w' => e = TwoI X E ∧ Below w.heap.size w w') ∧ (E = 10 ∨ E = 0 ∧ ¬ (a = c ∧ b = d) ∧ X = at2 (c - a) (d - b)) := by
  by_cases h : a = c ∧ b = d
  · obtain ⟨rfl, rfl⟩ := h
    exact ⟨0, 10, fun w => course_eq a b w h1, .inl rfl⟩
  · exact ⟨_, 0, fun w => course_ne a b c d w h1 h2 h, .inr ⟨rfl, h, rfl⟩⟩
end Go.Proofs.Ytpgpdglmgpjhlaa
