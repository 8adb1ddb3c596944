/- Elements in memory; two equal lists of elements are the same. -/
import Derived.Test.YtgabdnabcpdinaaHldF
namespace Go.Proofs.Ytgabdnabcpdinaa
open Go.RowKit Go.Joins Fdk
set_option linter.unusedVariables false
/-- an element's fields. -/
structure El where
  cu : Bool
  ax : Int
  ay : Int
  bx : Int
  b_ : Int
  cx : Int
  cy : Int
  r : Int
  f : Int
  s : Int
  l : Int
  n : Int
  g : Bool
abbrev El.v (x : El) : Value := elV x.cu x.ax x.ay x.bx x.b_ x.cx x.cy x.r x.f x.s x.l x.n x.g
def El.cells (x : El) : List Value := [.bool x.cu, .int .i64 x.ax, .int .i64 x.ay, .int .i64 x.bx, .int .i64 x.b_, .int .i64 x.cx, .int .i64 x.cy, .int .i64 x.r, .int .i64 x.f, .int .i64 x.s, .int .i64 x.l, .int .i64 x.n, .bool x.g]
/-- the element at a place of a block. -/
structure ElAt (w : World) (b o : Nat) (x : El) : Prop where
  c0 : w.cell? ⟨b, o, none⟩ = some (.bool x.cu)
  c1 : w.cell? ⟨b, o + 1, none⟩ = some (.int .i64 x.ax)
  c2 : w.cell? ⟨b, o + 2, none⟩ = some (.int .i64 x.ay)
  c3 : w.cell? ⟨b, o + 3, none⟩ = some (.int .i64 x.bx)
  c4 : w.cell? ⟨b, o + 4, none⟩ = some (.int .i64 x.b_)
  c5 : w.cell? ⟨b, o + 5, none⟩ = some (.int .i64 x.cx)
  c6 : w.cell? ⟨b, o + 6, none⟩ = some (.int .i64 x.cy)
  c7 : w.cell? ⟨b, o + 7, none⟩ = some (.int .i64 x.r)
  c8 : w.cell? ⟨b, o + 8, none⟩ = some (.int .i64 x.f)
  c9 : w.cell? ⟨b, o + 9, none⟩ = some (.int .i64 x.s)
  c10 : w.cell? ⟨b, o + 10, none⟩ = some (.int .i64 x.l)
  c11 : w.cell? ⟨b, o + 11, none⟩ = some (.int .i64 x.n)
  c12 : w.cell? ⟨b, o + 12, none⟩ = some (.bool x.g)
theorem ElAt.below {w w1 : World} {b o B : Nat} {x : El} (h : ElAt w b o x) (hb : Below B w w1) (hB : b < B) : ElAt w1 b o x :=
  ⟨(hb.cell (p := ⟨b, o, none⟩) hB).trans h.c0, (hb.cell (p := ⟨b, o + 1, none⟩) hB).trans h.c1, (hb.cell (p := ⟨b, o + 2, none⟩) hB).trans h.c2, (hb.cell (p := ⟨b, o + 3, none⟩) hB).trans h.c3, (hb.cell (p := ⟨b, o + 4, none⟩) hB).trans h.c4, (hb.cell (p := ⟨b, o + 5, none⟩) hB).trans h.c5, (hb.cell (p := ⟨b, o + 6, none⟩) hB).trans h.c6, (hb.cell (p := ⟨b, o + 7, none⟩) hB).trans h.c7, (hb.cell (p := ⟨b, o + 8, none⟩) hB).trans h.c8, (hb.cell (p := ⟨b, o + 9, none⟩) hB).trans h.c9, (hb.cell (p := ⟨b, o + 10, none⟩) hB).trans h.c10, (hb.cell (p := ⟨b, o + 11, none⟩) hB).trans h.c11, (hb.cell (p := ⟨b, o + 12, none⟩) hB).trans h.c12⟩
/-- the elements of a list that the call has made. -/
structure ElsAt (w : World) (b n : Nat) (x : Nat → El) : Prop where
  at_ : ∀ i, i < n → ElAt w b (i * 13) (x i)
  lt : b < w.heap.size
theorem ElsAt.below {w w1 : World} {b n B : Nat} {x : Nat → El} (h : ElsAt w b n x) (hb : Below B w w1) (hB : b < B) : ElsAt w1 b n x :=
  ⟨fun i hi => (h.at_ i hi).below hb hB, Nat.lt_of_lt_of_le h.lt hb.size⟩
theorem ElsAt.next {w w1 : World} {b n : Nat} {x : Nat → El} (h : ElsAt w b n x) (hb : Below w.heap.size w w1) : ElsAt w1 b n x := h.below hb h.lt
set_option maxRecDepth 8000 in
set_option maxHeartbeats 4000000 in
theorem same_some (ba bb n ca cb : Nat) (x : Nat → El) (w : World) (A : ElsAt w ba n x) (B : ElsAt w bb n x) (hn : n ≤ 100) :
    Calls Try.prog 16 #[.slice (some ⟨ba, 0, none⟩) n ca, .slice (some ⟨bb, 0, none⟩) n cb] w fun e w' => e = .returned (.bool true) ∧ Drew w w' := by
  go_enter Try.func16, Try.ntmps16
  go_wp2_with fail
  go_loopw [13] (fun s13 wr => ∃ k : Nat, k ≤ n ∧ s13 = .int .i64 k ∧ Drew w wr) (fun s13 _ => n - (intOf s13).toNat)
  case atStart => exact ⟨0, Nat.zero_le _, rfl, Drew.refl _⟩
  case round =>
    obtain ⟨k, hk, rfl, hd⟩ := hrel
    by_cases h1 : k < n
    · have HA := Lib.hid ((A.below (hd.below _) A.lt).at_ k h1)
      have HB := Lib.hid ((B.below (hd.below _) B.lt).at_ k h1)
      have HD := Lib.hid hd
      clear hd A B
      have h2 : (k : Int) < n := by omega
      have h0 : (0 : Int) ≤ k := Int.natCast_nonneg k
      generalize x k = y at *
      obtain ⟨p0, p1, p2, p3, p4, p5, p6, p7, p8, p9, p10, p11, p12⟩ := id HA.out
      obtain ⟨q0, q1, q2, q3, q4, q5, q6, q7, q8, q9, q10, q11, q12⟩ := id HB.out
      go_wp2_with fail
      go_quiet (fail)
      clear p0 p1 p2 p3 p4 p5 p6 p7 p8 p9 p10 p11 p12 q0 q1 q2 q3 q4 q5 q6 q7 q8 q9 q10 q11 q12
      have HD2 := Lib.hid (HD.out.trans ⟨nq, rfl⟩)
      go_wp2
      go_roundw
      case rel => exact ⟨k + 1, h1, rfl, HD2.out⟩
      case measure => simp [intOf]; omega
    · have hd2 := Lib.hid hd
      clear hd A B
      have h2 : ¬ (k : Int) < n := by omega
      go_wp2
      go_ret
      exact ⟨rfl, hd2.out⟩
theorem same_none (w : World) :
    Calls Try.prog 16 #[.slice none 0 0, .slice none 0 0] w fun e w' => e = .returned (.bool true) ∧ Drew w w' := by
  go_enter Try.func16, Try.ntmps16
  go_wp2_with fail
  refine wp_loop_rounds 1 ?_
  rw [rounds_succ]
  go_wp2
  go_ret
  exact ⟨rfl, Drew.refl _⟩
end Go.Proofs.Ytgabdnabcpdinaa
