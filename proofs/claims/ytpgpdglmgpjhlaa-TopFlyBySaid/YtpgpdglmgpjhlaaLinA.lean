/- line.Course, line.cross, line.valid of three points. -/
import Derived.Test.YtpgpdglmgpjhlaaHldC
import Derived.Test.YtpgpdglmgpjhlaaWidF
import Derived.Test.YtpgpdglmgpjhlaaSphB
namespace Go.Proofs.Ytpgpdglmgpjhlaa
open Go.RowKit Go.Joins Fdk
set_option linter.unusedVariables false
set_option maxHeartbeats 4000000 in
theorem lcross_any (a b c d : Int) (w : World) (h1 : -4000000 ≤ a ∧ a ≤ 4000000) (h2 : -4000000 ≤ b ∧ b ≤ 4000000) (h3 : -4000000 ≤ c ∧ c ≤ 4000000) (h4 : -4000000 ≤ d ∧ d ≤ 4000000) :
    Calls Try.prog 26 #[ptV a b, ptV c d] w fun e w' => e = .returned (.int .i64 (a * d - b * c)) ∧ Below w.heap.size w w' := by
  have m0 := sq_bh h1.1 h1.2 h4.1 h4.2
  have m1 := sq_bh h2.1 h2.2 h3.1 h3.2
  clear h1 h2 h3 h4
  have e0 : IntKind.i64.wrap (a * d) = a * d := IntWalk.i64_in _ (by omega)
  have e1 : IntKind.i64.wrap (b * c) = b * c := IntWalk.i64_in _ (by omega)
  have e2 : IntKind.i64.wrap (a * d - b * c) = a * d - b * c := IntWalk.i64_in _ (by omega)
  go_enter Try.func26, Try.ntmps26
  go_wp2
  go_ret
  exact ⟨rfl, below_alloc2 w _ _⟩
/-- a block of six cells, to be read. -/
structure R6 (w : World) (b : Nat) (x0 x1 x2 x3 x4 x5 : Value) : Prop where
  c0 : w.cell? ⟨b, 0, none⟩ = some x0
  c1 : w.cell? ⟨b, 1, none⟩ = some x1
  c2 : w.cell? ⟨b, 2, none⟩ = some x2
  c3 : w.cell? ⟨b, 3, none⟩ = some x3
  c4 : w.cell? ⟨b, 4, none⟩ = some x4
  c5 : w.cell? ⟨b, 5, none⟩ = some x5
  lt : b < w.heap.size
theorem r6_new (w : World) (x0 x1 x2 x3 x4 x5 : Value) (t : TypeId) : R6 (w.alloc (.cells #[x0, x1, x2, x3, x4, x5] t)) w.heap.size x0 x1 x2 x3 x4 x5 := by
  have e : (w.alloc (.cells #[x0, x1, x2, x3, x4, x5] t)).heap[w.heap.size]? = some (.cells #[x0, x1, x2, x3, x4, x5] t) := by show (w.heap.push _)[w.heap.size]? = _; simp
  exact ⟨by simp only [World.cell?, e]; rfl, by simp only [World.cell?, e]; rfl, by simp only [World.cell?, e]; rfl, by simp only [World.cell?, e]; rfl, by simp only [World.cell?, e]; rfl, by simp only [World.cell?, e]; rfl, by show _ < (w.heap.push _).size; simp⟩
theorem R6.next {w w1 : World} {b : Nat} {x0 x1 x2 x3 x4 x5 : Value} (h : R6 w b x0 x1 x2 x3 x4 x5) (hb : Below w.heap.size w w1) : R6 w1 b x0 x1 x2 x3 x4 x5 :=
  ⟨(hb.cell (p := ⟨b, 0, none⟩) h.lt).trans h.c0, (hb.cell (p := ⟨b, 1, none⟩) h.lt).trans h.c1, (hb.cell (p := ⟨b, 2, none⟩) h.lt).trans h.c2, (hb.cell (p := ⟨b, 3, none⟩) h.lt).trans h.c3, (hb.cell (p := ⟨b, 4, none⟩) h.lt).trans h.c4, (hb.cell (p := ⟨b, 5, none⟩) h.lt).trans h.c5, Nat.lt_of_lt_of_le h.lt hb.size⟩
set_option maxHeartbeats 4000000 in
theorem lvalid3_t (bk : Nat) (a b c d p q : Int) (w : World) (T : R6 w bk (.int .i64 a) (.int .i64 b) (.int .i64 c) (.int .i64 d) (.int .i64 p) (.int .i64 q)) (h1 : pvd a b = true) (h2 : pvd c d = true) (h3 : pvd p q = true) :
    Calls Try.prog 11 #[.slice (some ⟨bk, 0, none⟩) 3 3] w fun e w' => e = .returned (.bool true) ∧ Below w.heap.size w w' := by
  have H1 := Lib.hid (fun w => pvalid_any a b w)
  have H2 := Lib.hid (fun w => pvalid_any c d w)
  have H3 := Lib.hid (fun w => pvalid_any p q w)
  rw [h1] at H1
  rw [h2] at H2
  rw [h3] at H3
  clear h1 h2 h3
  have B := Below.refl w.heap.size w
  go_enter Try.func11, Try.ntmps11
  obtain ⟨t0, t1, t2, t3, t4, t5, tl⟩ := id T
  go_wp2_with fail
  refine wp_loop_rounds 4 ?_

  rw [rounds_succ]
  go_wp2_with fail
  clear t0 t1 t2 t3 t4 t5 tl
  refine (H1.out _).mono ?_
  rintro e w1 ⟨rfl, hb⟩
  replace B := thn (alc B (.cells #[.int .i64 a, .int .i64 b] 23)) hb
  replace T := (T.next (below_alloc1 _ (.cells #[.int .i64 a, .int .i64 b] 23))).next hb
  clear hb
  obtain ⟨t0, t1, t2, t3, t4, t5, tl⟩ := id T
  go_wp2_with fail
  rw [rounds_succ]
  go_wp2_with fail
  clear t0 t1 t2 t3 t4 t5 tl
  refine (H2.out _).mono ?_
  rintro e w2 ⟨rfl, hb⟩
  replace B := thn (alc B (.cells #[.int .i64 c, .int .i64 d] 23)) hb
  replace T := (T.next (below_alloc1 _ (.cells #[.int .i64 c, .int .i64 d] 23))).next hb
  clear hb
  obtain ⟨t0, t1, t2, t3, t4, t5, tl⟩ := id T
  go_wp2_with fail
  rw [rounds_succ]
  go_wp2_with fail
  clear t0 t1 t2 t3 t4 t5 tl
  refine (H3.out _).mono ?_
  rintro e w3 ⟨rfl, hb⟩
  replace B := thn (alc B (.cells #[.int .i64 p, .int .i64 q] 23)) hb
  replace T := (T.next (below_alloc1 _ (.cells #[.int .i64 p, .int .i64 q] 23))).next hb
  clear hb
  obtain ⟨t0, t1, t2, t3, t4, t5, tl⟩ := id T
  go_wp2_with fail
  rw [rounds_succ]
  go_wp2
  go_ret
  exact ⟨rfl, B⟩
set_option maxHeartbeats 8000000 in
theorem course_eq (a b : Int) (w : World) (h1 : pvd a b = true) :
    Calls Try.prog 4 #[ptV a b, ptV a b] w fun e w' => e = TwoI 0 10 ∧ Below w.heap.size w w' := by
  have HV : Hid ((pvd a b && pvd a b) = true) := Lib.hid (by rw [h1]; rfl)
  clear h1
  go_enter Try.func4, Try.ntmps4
  go_wp2_with fail
  have T := c4_new ((w.alloc (.cells #[.int .i64 a, .int .i64 b] 23)).alloc (.cells #[.int .i64 a, .int .i64 b] 23)) (.int .i64 a) (.int .i64 b) (.int .i64 a) (.int .i64 b) 23
  rw [show ((w.alloc (.cells #[.int .i64 a, .int .i64 b] 23)).alloc (.cells #[.int .i64 a, .int .i64 b] 23)).heap.size = w.heap.size + 1 + 1 by simp] at T
  refine (lvalid_any _ _ _ _ _ _ T).mono ?_
  rintro e w1 ⟨rfl, hb⟩
  rw [HV.out]
  have B := thn (below_alloc3 w _ _ _) hb
  have A1 := (((c2_new w (.int .i64 a) (.int .i64 b) 23).alc _).alc _).next hb
  have A2 := ((c2_new _ (.int .i64 a) (.int .i64 b) 23).alc _).next hb
  simp only [World.alloc, Array.size_push] at A2
  clear hb T
  obtain ⟨a0, a1, a2_, a3, al⟩ := id A1
  obtain ⟨b0, b1, b2, b3, bl⟩ := id A2
  go_wp2_with fail
  go_ret2
  exact ⟨rfl, B⟩
set_option maxHeartbeats 8000000 in
theorem course_0 (a b c d : Int) (w : World) (h1 : pvd a b = true) (h2 : pvd c d = true) (hne : ¬ a = c) :
    Calls Try.prog 4 #[ptV a b, ptV c d] w fun e w' => e = TwoI (at2 (c - a) (d - b)) 0 ∧ Below w.heap.size w w' := by
  have ⟨v1, v2⟩ := And.intro h1 h2
  have ⟨p1, p2⟩ := pvd_of v1
  have ⟨q1, q2⟩ := pvd_of v2
  have HV : Hid ((pvd a b && pvd c d) = true) := Lib.hid (by rw [h1, h2]; rfl)
  have HW := Lib.hid (fun w => vector_any a b c d w h1 h2)
  have HA := Lib.hid (fun w => a2_any (c - a) (d - b) w)
  rw [show a2 (c - a) (d - b) = (at2 (c - a) (d - b), 0) by unfold a2 fits; rw [if_pos (decide_eq_true (by omega)), if_neg (by omega)]] at HA
  generalize at2 (c - a) (d - b) = V at *
  generalize c - a = X at *
  generalize d - b = Y at *
  clear h1 h2 v1 v2 p1 p2 q1 q2
  go_enter Try.func4, Try.ntmps4
  go_wp2_with fail
  have T := c4_new ((w.alloc (.cells #[.int .i64 a, .int .i64 b] 23)).alloc (.cells #[.int .i64 c, .int .i64 d] 23)) (.int .i64 a) (.int .i64 b) (.int .i64 c) (.int .i64 d) 23
  rw [show ((w.alloc (.cells #[.int .i64 a, .int .i64 b] 23)).alloc (.cells #[.int .i64 c, .int .i64 d] 23)).heap.size = w.heap.size + 1 + 1 by simp] at T
  refine (lvalid_any _ _ _ _ _ _ T).mono ?_
  rintro e w1 ⟨rfl, hb⟩
  rw [HV.out]
  have B := thn (below_alloc3 w _ _ _) hb
  have A1 := (((c2_new w (.int .i64 a) (.int .i64 b) 23).alc _).alc _).next hb
  have A2 := ((c2_new _ (.int .i64 c) (.int .i64 d) 23).alc _).next hb
  simp only [World.alloc, Array.size_push] at A2
  clear hb T
  obtain ⟨a0, a1, a2_, a3, al⟩ := id A1
  obtain ⟨b0, b1, b2, b3, bl⟩ := id A2
  go_wp2_with fail
  clear a0 a1 a2_ a3 al b0 b1 b2 b3 bl A1 A2
  refine (HW.out _).mono ?_
  rintro e w2 ⟨rfl, hb⟩
  replace B := alc (thn B hb) (.cells #[.int .i64 X, .int .i64 Y] 23)
  have D := c2_new w2 (.int .i64 X) (.int .i64 Y) 23
  clear hb
  obtain ⟨d0, d1, d2, d3, dl⟩ := id D
  go_wp2_with fail
  clear d0 d1 d2 d3 dl D
  refine (HA.out _).mono ?_
  rintro e w3 ⟨rfl, hb⟩
  replace B := thn B hb
  clear hb
  go_wp2_with fail
  go_ret2
  exact ⟨rfl, B⟩
set_option maxHeartbeats 8000000 in
theorem course_1 (a b c d : Int) (w : World) (h1 : pvd a b = true) (h2 : pvd c d = true) (hac : a = c) (hne : ¬ b = d) :
    Calls Try.prog 4 #[ptV a b, ptV c d] w fun e w' => e = TwoI (at2 (c - a) (d - b)) 0 ∧ Below w.heap.size w w' := by
  have ⟨v1, v2⟩ := And.intro h1 h2
  have ⟨p1, p2⟩ := pvd_of v1
  have ⟨q1, q2⟩ := pvd_of v2
  have HV : Hid ((pvd a b && pvd c d) = true) := Lib.hid (by rw [h1, h2]; rfl)
  have HW := Lib.hid (fun w => vector_any a b c d w h1 h2)
  have HA := Lib.hid (fun w => a2_any (c - a) (d - b) w)
  rw [show a2 (c - a) (d - b) = (at2 (c - a) (d - b), 0) by unfold a2 fits; rw [if_pos (decide_eq_true (by omega)), if_neg (by omega)]] at HA
  generalize at2 (c - a) (d - b) = V at *
  generalize c - a = X at *
  generalize d - b = Y at *
  clear h1 h2 v1 v2 p1 p2 q1 q2
  subst hac
  go_enter Try.func4, Try.ntmps4
  go_wp2_with fail
  have T := c4_new ((w.alloc (.cells #[.int .i64 a, .int .i64 b] 23)).alloc (.cells #[.int .i64 a, .int .i64 d] 23)) (.int .i64 a) (.int .i64 b) (.int .i64 a) (.int .i64 d) 23
  rw [show ((w.alloc (.cells #[.int .i64 a, .int .i64 b] 23)).alloc (.cells #[.int .i64 a, .int .i64 d] 23)).heap.size = w.heap.size + 1 + 1 by simp] at T
  refine (lvalid_any _ _ _ _ _ _ T).mono ?_
  rintro e w1 ⟨rfl, hb⟩
  rw [HV.out]
  have B := thn (below_alloc3 w _ _ _) hb
  have A1 := (((c2_new w (.int .i64 a) (.int .i64 b) 23).alc _).alc _).next hb
  have A2 := ((c2_new _ (.int .i64 a) (.int .i64 d) 23).alc _).next hb
  simp only [World.alloc, Array.size_push] at A2
  clear hb T
  obtain ⟨a0, a1, a2_, a3, al⟩ := id A1
  obtain ⟨b0, b1, b2, b3, bl⟩ := id A2
  go_wp2_with fail
  clear a0 a1 a2_ a3 al b0 b1 b2 b3 bl A1 A2
  refine (HW.out _).mono ?_
  rintro e w2 ⟨rfl, hb⟩
  replace B := alc (thn B hb) (.cells #[.int .i64 X, .int .i64 Y] 23)
  have D := c2_new w2 (.int .i64 X) (.int .i64 Y) 23
  clear hb
  obtain ⟨d0, d1, d2, d3, dl⟩ := id D
  go_wp2_with fail
  clear d0 d1 d2 d3 dl D
  refine (HA.out _).mono ?_
  rintro e w3 ⟨rfl, hb⟩
  replace B := thn B hb
  clear hb
  go_wp2_with fail
  go_ret2
  exact ⟨rfl, B⟩
theorem course_ne (a b c d : Int) (w : World) (h1 : pvd a b = true) (h2 : pvd c d = true) (hne : ¬ (a = c ∧ b = d)) :
    Calls Try.prog 4 #[ptV a b, ptV c d] w fun e w' => e = TwoI (at2 (c - a) (d - b)) 0 ∧ Below w.heap.size w w' := by
  by_cases h : a = c
  · exact course_1 a b c d w h1 h2 h (fun e => hne ⟨h, e⟩)
  · exact course_0 a b c d w h1 h2 h
end Go.Proofs.Ytpgpdglmgpjhlaa
