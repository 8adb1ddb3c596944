/- The laws of chapter 45: coasted and merged boxes and the reach are the specified ones. -/
import Derived.Test.YtfeoladkpgojpaaAwake45
import Derived.Test.YtfeoladkpgojpaaIner4
import Derived.Deep.RegionHeld
namespace Go.Proofs.Ytfeoladkpgojpaa
open Go.RowKit Go.Joins Fdk
set_option linter.unusedVariables false

theorem keep4 {a w1 w2 : World} {b : Nat} {x y r s : Value} (h : (Below a.heap.size a w1 ∧ b < w1.heap.size ∧ w1.cell? ⟨b, 0, none⟩ = some x ∧ w1.cell? ⟨b, 1, none⟩ = some y ∧ w1.cell? ⟨b, 2, none⟩ = some r ∧ w1.cell? ⟨b, 3, none⟩ = some s)) (k : Below w1.heap.size w1 w2) : (Below a.heap.size a w2 ∧ b < w2.heap.size ∧ w2.cell? ⟨b, 0, none⟩ = some x ∧ w2.cell? ⟨b, 1, none⟩ = some y ∧ w2.cell? ⟨b, 2, none⟩ = some r ∧ w2.cell? ⟨b, 3, none⟩ = some s) := by
  obtain ⟨B, l, c0, c1, c2, c3⟩ := h
  exact ⟨thn B k, Nat.lt_of_lt_of_le l k.size, (k.cell (p := ⟨b, 0, none⟩) l).trans c0, (k.cell (p := ⟨b, 1, none⟩) l).trans c1, (k.cell (p := ⟨b, 2, none⟩) l).trans c2, (k.cell (p := ⟨b, 3, none⟩) l).trans c3⟩
theorem keep43 {a w1 w2 : World} {b0 b1 b2 : Nat} {x0 y0 r0 s0 x1 y1 r1 s1 x2 y2 r2 s2 : Value} (h : (Below a.heap.size a w1 ∧ b0 < w1.heap.size ∧ w1.cell? ⟨b0, 0, none⟩ = some x0 ∧ w1.cell? ⟨b0, 1, none⟩ = some y0 ∧ w1.cell? ⟨b0, 2, none⟩ = some r0 ∧ w1.cell? ⟨b0, 3, none⟩ = some s0) ∧ (Below a.heap.size a w1 ∧ b1 < w1.heap.size ∧ w1.cell? ⟨b1, 0, none⟩ = some x1 ∧ w1.cell? ⟨b1, 1, none⟩ = some y1 ∧ w1.cell? ⟨b1, 2, none⟩ = some r1 ∧ w1.cell? ⟨b1, 3, none⟩ = some s1) ∧ (Below a.heap.size a w1 ∧ b2 < w1.heap.size ∧ w1.cell? ⟨b2, 0, none⟩ = some x2 ∧ w1.cell? ⟨b2, 1, none⟩ = some y2 ∧ w1.cell? ⟨b2, 2, none⟩ = some r2 ∧ w1.cell? ⟨b2, 3, none⟩ = some s2)) (k : Below w1.heap.size w1 w2) : (Below a.heap.size a w2 ∧ b0 < w2.heap.size ∧ w2.cell? ⟨b0, 0, none⟩ = some x0 ∧ w2.cell? ⟨b0, 1, none⟩ = some y0 ∧ w2.cell? ⟨b0, 2, none⟩ = some r0 ∧ w2.cell? ⟨b0, 3, none⟩ = some s0) ∧ (Below a.heap.size a w2 ∧ b1 < w2.heap.size ∧ w2.cell? ⟨b1, 0, none⟩ = some x1 ∧ w2.cell? ⟨b1, 1, none⟩ = some y1 ∧ w2.cell? ⟨b1, 2, none⟩ = some r1 ∧ w2.cell? ⟨b1, 3, none⟩ = some s1) ∧ (Below a.heap.size a w2 ∧ b2 < w2.heap.size ∧ w2.cell? ⟨b2, 0, none⟩ = some x2 ∧ w2.cell? ⟨b2, 1, none⟩ = some y2 ∧ w2.cell? ⟨b2, 2, none⟩ = some r2 ∧ w2.cell? ⟨b2, 3, none⟩ = some s2) := ⟨keep4 h.1 k, keep4 h.2.1 k, keep4 h.2.2 k⟩

set_option maxHeartbeats 1600000 in
theorem inertialReaches_walk (x y r s : Int) (d : Int) (_ : -9223372036854775808 ≤ d ∧ d ≤ 9223372036854775807) (l : Int) (_ : -9223372036854775808 ≤ l ∧ l ≤ 9223372036854775807) (w : World) :
    Calls Try.prog 8 #[boxV x y r s, .int .i64 d, .int .i64 l] w fun e w' => e = .returned (.bool true) ∧ Below w.heap.size w w' := by
  go_enter Try.func8, Try.ntmps8
  go_wp2_with fail
  refine (awake_any _).mono ?_
  rintro e w1 ⟨rfl, hb1⟩
  have B := thn (below_alloc1 w _) hb1
  have T := (cell4_new w _ _ _ _ _).next hb1
  clear hb1
  obtain ⟨ca0, cb0, cc0, cd0, fa0, fb0, fc0, fd0, lz0⟩ := id T
  go_wp2_with fail
  refine (ireach_any _ _ _ _ _ _ _).mono ?_
  rintro e w2 ⟨rfl, hb2⟩
  clear ca0 cb0 cc0 cd0 fa0 fb0 fc0 fd0 lz0
  replace B := thn B hb2
  replace T := T.next hb2
  clear hb2
  obtain ⟨ca0, cb0, cc0, cd0, fa0, fb0, fc0, fd0, lz0⟩ := id T
  generalize HR : rch x y r s d l = R
  obtain ⟨R1, R2⟩ := R
  go_wp2_with fail
  refine (rreach_any _ _ _ _ _ _ _).mono ?_
  rintro e w3 ⟨rfl, hb3⟩
  rw [HR]
  clear ca0 cb0 cc0 cd0 fa0 fb0 fc0 fd0 lz0
  replace B := thn B hb3
  replace T := T.next hb3
  clear hb3
  obtain ⟨ca0, cb0, cc0, cd0, fa0, fb0, fc0, fd0, lz0⟩ := id T
  have hS : (Below w.heap.size w w3 ∧ w.heap.size < w3.heap.size ∧ w3.cell? ⟨w.heap.size, 0, none⟩ = some (.int .i64 x) ∧ w3.cell? ⟨w.heap.size, 1, none⟩ = some (.int .i64 y) ∧ w3.cell? ⟨w.heap.size, 2, none⟩ = some (.int .i64 r) ∧ w3.cell? ⟨w.heap.size, 3, none⟩ = some (.int .i64 s)) := ⟨B, lz0, ca0, cb0, cc0, cd0⟩
  clear B T ca0 cb0 cc0 cd0 fa0 fb0 fc0 fd0 lz0
  go_wp2
  go_region_held (fun w' => (Below w.heap.size w w' ∧ w.heap.size < w'.heap.size ∧ w'.cell? ⟨w.heap.size, 0, none⟩ = some (.int .i64 x) ∧ w'.cell? ⟨w.heap.size, 1, none⟩ = some (.int .i64 y) ∧ w'.cell? ⟨w.heap.size, 2, none⟩ = some (.int .i64 r) ∧ w'.cell? ⟨w.heap.size, 3, none⟩ = some (.int .i64 s)))
    (first | exact keep4 hS (below_draws _ _ 1) | exact keep4 (by assumption) hb4 | exact keep4 (by assumption) hb5)
    (first | (go_at_call 22; refine (iwithin_any _ _ _ _ _ _).mono ?_; rintro e w4 ⟨rfl, hb4⟩) | (go_at_call 23; refine (rwith_any _ _ _ _ _ _).mono ?_; rintro e w5 ⟨rfl, hb5⟩))
  go_wp2
  go_ret
  exact ⟨rfl, (keep4 (keep4 (keep4 hS (below_draws _ _ 1)) hb4) hb5).1⟩
set_option maxHeartbeats 1600000 in
theorem inertialCoasts_walk (x y r s : Int) (a b d t : Int) (w : World) :
    Calls Try.prog 3 #[boxV x y r s, .agg #[.int .i64 a, .int .i64 b, .int .i64 d, .int .i64 t]] w fun e w' => e = .returned (.bool true) ∧ Below w.heap.size w w' := by
  go_enter Try.func3, Try.ntmps3
  go_wp2_with fail
  refine (awake_any _).mono ?_
  rintro e w1 ⟨rfl, hb1⟩
  have B := thn (below_alloc2 w _ _) hb1
  have T := ((cell4_new w _ _ _ _ _).alc _).next hb1
  have U := (cell4_new _ _ _ _ _ _).next hb1
  simp only [World.alloc, Array.size_push] at U
  clear hb1
  obtain ⟨ca0, cb0, cc0, cd0, fa0, fb0, fc0, fd0, lz0⟩ := id T
  obtain ⟨ca1, cb1, cc1, cd1, fa1, fb1, fc1, fd1, lz1⟩ := id U
  go_wp2_with fail
  refine (icoast_any _ _ _ _ _ _ _ _ _).mono ?_
  rintro e w2 ⟨rfl, hb2⟩
  clear ca0 cb0 cc0 cd0 fa0 fb0 fc0 fd0 lz0 ca1 cb1 cc1 cd1 fa1 fb1 fc1 fd1 lz1
  replace B := thn B hb2
  replace T := T.next hb2
  replace U := U.next hb2
  clear hb2
  obtain ⟨ca0, cb0, cc0, cd0, fa0, fb0, fc0, fd0, lz0⟩ := id T
  obtain ⟨ca1, cb1, cc1, cd1, fa1, fb1, fc1, fd1, lz1⟩ := id U
  generalize HR : coast x y r s a b d t = R
  obtain ⟨R1, R2, R3, R4, R5⟩ := R
  go_wp2_with fail
  refine (rcoast_any _ _ _ _ _ _ _ _ _).mono ?_
  rintro e w3 ⟨rfl, hb3⟩
  rw [HR]
  clear ca0 cb0 cc0 cd0 fa0 fb0 fc0 fd0 lz0 ca1 cb1 cc1 cd1 fa1 fb1 fc1 fd1 lz1
  replace B := thn (alc B _) hb3
  replace T := (T.alc _).next hb3
  replace U := (U.alc _).next hb3
  have V := (cell4_new w2 _ _ _ _ _).next hb3
  clear hb3
  obtain ⟨ca0, cb0, cc0, cd0, fa0, fb0, fc0, fd0, lz0⟩ := id T
  obtain ⟨ca1, cb1, cc1, cd1, fa1, fb1, fc1, fd1, lz1⟩ := id U
  obtain ⟨ca2, cb2, cc2, cd2, fa2, fb2, fc2, fd2, lz2⟩ := id V
  have X := cell4_new w3 (.int .i64 R1) (.int .i64 R2) (.int .i64 R3) (.int .i64 R4) 25
  replace B := alc B (.cells #[.int .i64 R1, .int .i64 R2, .int .i64 R3, .int .i64 R4] 25)
  replace T := T.alc (.cells #[.int .i64 R1, .int .i64 R2, .int .i64 R3, .int .i64 R4] 25)
  replace V := V.alc (.cells #[.int .i64 R1, .int .i64 R2, .int .i64 R3, .int .i64 R4] 25)
  go_wp2
  generalize w3.alloc (.cells #[.int .i64 R1, .int .i64 R2, .int .i64 R3, .int .i64 R4] 25) = w4 at X B T V ⊢
  have hS : (Below w.heap.size w w4 ∧ w.heap.size < w4.heap.size ∧ w4.cell? ⟨w.heap.size, 0, none⟩ = some (.int .i64 x) ∧ w4.cell? ⟨w.heap.size, 1, none⟩ = some (.int .i64 y) ∧ w4.cell? ⟨w.heap.size, 2, none⟩ = some (.int .i64 r) ∧ w4.cell? ⟨w.heap.size, 3, none⟩ = some (.int .i64 s)) ∧ (Below w.heap.size w w4 ∧ w2.heap.size < w4.heap.size ∧ w4.cell? ⟨w2.heap.size, 0, none⟩ = some (.int .i64 R1) ∧ w4.cell? ⟨w2.heap.size, 1, none⟩ = some (.int .i64 R2) ∧ w4.cell? ⟨w2.heap.size, 2, none⟩ = some (.int .i64 R3) ∧ w4.cell? ⟨w2.heap.size, 3, none⟩ = some (.int .i64 R4)) ∧ (Below w.heap.size w w4 ∧ w3.heap.size < w4.heap.size ∧ w4.cell? ⟨w3.heap.size, 0, none⟩ = some (.int .i64 R1) ∧ w4.cell? ⟨w3.heap.size, 1, none⟩ = some (.int .i64 R2) ∧ w4.cell? ⟨w3.heap.size, 2, none⟩ = some (.int .i64 R3) ∧ w4.cell? ⟨w3.heap.size, 3, none⟩ = some (.int .i64 R4)) := ⟨⟨B, T.lt, T.c0, T.c1, T.c2, T.c3⟩, ⟨B, V.lt, V.c0, V.c1, V.c2, V.c3⟩, ⟨B, X.lt, X.c0, X.c1, X.c2, X.c3⟩⟩
  clear B T U V X
  clear ca0 cb0 cc0 cd0 fa0 fb0 fc0 fd0 lz0 ca1 cb1 cc1 cd1 fa1 fb1 fc1 fd1 lz1 ca2 cb2 cc2 cd2 fa2 fb2 fc2 fd2 lz2
  go_region_held (fun w' => (Below w.heap.size w w' ∧ w.heap.size < w'.heap.size ∧ w'.cell? ⟨w.heap.size, 0, none⟩ = some (.int .i64 x) ∧ w'.cell? ⟨w.heap.size, 1, none⟩ = some (.int .i64 y) ∧ w'.cell? ⟨w.heap.size, 2, none⟩ = some (.int .i64 r) ∧ w'.cell? ⟨w.heap.size, 3, none⟩ = some (.int .i64 s)) ∧ (Below w.heap.size w w' ∧ w2.heap.size < w'.heap.size ∧ w'.cell? ⟨w2.heap.size, 0, none⟩ = some (.int .i64 R1) ∧ w'.cell? ⟨w2.heap.size, 1, none⟩ = some (.int .i64 R2) ∧ w'.cell? ⟨w2.heap.size, 2, none⟩ = some (.int .i64 R3) ∧ w'.cell? ⟨w2.heap.size, 3, none⟩ = some (.int .i64 R4)) ∧ (Below w.heap.size w w' ∧ w3.heap.size < w'.heap.size ∧ w'.cell? ⟨w3.heap.size, 0, none⟩ = some (.int .i64 R1) ∧ w'.cell? ⟨w3.heap.size, 1, none⟩ = some (.int .i64 R2) ∧ w'.cell? ⟨w3.heap.size, 2, none⟩ = some (.int .i64 R3) ∧ w'.cell? ⟨w3.heap.size, 3, none⟩ = some (.int .i64 R4)))
    (first | exact keep43 hS (below_draws _ _ 1) | exact keep43 (by assumption) hb5 | exact keep43 (by assumption) hb6)
    (first | (go_at_call 14; refine (ivalid_any _ _ _ _ _).mono ?_; rintro e w5 ⟨rfl, hb5⟩) | (go_at_call 15; refine (rvalid_any _ _ _ _ _).mono ?_; rintro e w6 ⟨rfl, hb6⟩))
  go_wp2
  go_ret
  exact ⟨rfl, (keep43 (keep43 (keep43 hS (below_draws _ _ 1)) hb5) hb6).1.1⟩
set_option maxHeartbeats 1600000 in
theorem inertialMerges_walk (x y r s : Int) (p q u v : Int) (w : World) :
    Calls Try.prog 6 #[boxV x y r s, boxV p q u v] w fun e w' => e = .returned (.bool true) ∧ Below w.heap.size w w' := by
  go_enter Try.func6, Try.ntmps6
  go_wp2_with fail
  refine (awake_any _).mono ?_
  rintro e w1 ⟨rfl, hb1⟩
  have B := thn (below_alloc2 w _ _) hb1
  have T := ((cell4_new w _ _ _ _ _).alc _).next hb1
  have U := (cell4_new _ _ _ _ _ _).next hb1
  simp only [World.alloc, Array.size_push] at U
  clear hb1
  obtain ⟨ca0, cb0, cc0, cd0, fa0, fb0, fc0, fd0, lz0⟩ := id T
  obtain ⟨ca1, cb1, cc1, cd1, fa1, fb1, fc1, fd1, lz1⟩ := id U
  go_wp2_with fail
  refine (imerge_any _ _ _ _ _ _ _ _ _).mono ?_
  rintro e w2 ⟨rfl, hb2⟩
  clear ca0 cb0 cc0 cd0 fa0 fb0 fc0 fd0 lz0 ca1 cb1 cc1 cd1 fa1 fb1 fc1 fd1 lz1
  replace B := thn B hb2
  replace T := T.next hb2
  replace U := U.next hb2
  clear hb2
  obtain ⟨ca0, cb0, cc0, cd0, fa0, fb0, fc0, fd0, lz0⟩ := id T
  obtain ⟨ca1, cb1, cc1, cd1, fa1, fb1, fc1, fd1, lz1⟩ := id U
  generalize HR : mg x y r s p q u v = R
  obtain ⟨R1, R2, R3, R4, R5⟩ := R
  go_wp2_with fail
  refine (rmerge_any _ _ _ _ _ _ _ _ _).mono ?_
  rintro e w3 ⟨rfl, hb3⟩
  rw [HR]
  clear ca0 cb0 cc0 cd0 fa0 fb0 fc0 fd0 lz0 ca1 cb1 cc1 cd1 fa1 fb1 fc1 fd1 lz1
  replace B := thn (alc B _) hb3
  replace T := (T.alc _).next hb3
  replace U := (U.alc _).next hb3
  have V := (cell4_new w2 _ _ _ _ _).next hb3
  clear hb3
  obtain ⟨ca0, cb0, cc0, cd0, fa0, fb0, fc0, fd0, lz0⟩ := id T
  obtain ⟨ca1, cb1, cc1, cd1, fa1, fb1, fc1, fd1, lz1⟩ := id U
  obtain ⟨ca2, cb2, cc2, cd2, fa2, fb2, fc2, fd2, lz2⟩ := id V
  go_wp2
  go_ret
  exact ⟨rfl, alc B _⟩
end Go.Proofs.Ytfeoladkpgojpaa
