/- The law of chapter 9 on distances: the walk. -/
import Derived.Test.YtgcmmfclnialfaaRotZb
import Derived.Test.YtgcmmfclnialfaaAwake09
namespace Go.Proofs.Ytgcmmfclnialfaa
open Go.RowKit Go.Joins Fdk
set_option linter.unusedVariables false
set_option maxHeartbeats 4000000 in
theorem metric_a (a b c d e f x2 y2 x3 y3 : Int) (w : World) (h1 : dstv a b c d = (0, 1)) (h2 : dstv c d e f = (x2, y2)) (h3 : dstv a b e f = (x3, y3)) (h4 : dstv c d a b = (0, 1)) :
    Calls Try.prog 6 #[posV a b, posV c d, posV e f] w fun e w' => e = .returned (.bool true) ∧ Below w.heap.size w w' := by
  have H1 := Lib.hid h1
  clear h1
  have H2 := Lib.hid h2
  clear h2
  have H3 := Lib.hid h3
  clear h3
  have H4 := Lib.hid h4
  clear h4
  go_enter Try.func6, Try.ntmps6
  go_wp2_with fail
  refine (awake_any _).mono ?_
  rintro e w1 ⟨rfl, hb⟩
  have B := thn (below_alloc3 w _ _ _) hb
  have T := (((c2_new w (.int .i64 a) (.int .i64 b) 23).alc _).alc _).next hb
  have U := ((c2_new _ (.int .i64 c) (.int .i64 d) 23).alc _).next hb
  have V := (c2_new _ (.int .i64 e) (.int .i64 f) 23).next hb
  simp only [World.alloc, Array.size_push] at U V
  clear hb
  obtain ⟨t0, t1, t2, t3, tl⟩ := id T
  obtain ⟨u0, u1, u2, u3, ul⟩ := id U
  obtain ⟨v0, v1, v2, v3, vl⟩ := id V
  go_wp2_with fail
  clear t0 t1 t2 t3 tl u0 u1 u2 u3 ul v0 v1 v2 v3 vl
  refine (dist_any _ _ _ _ _).mono ?_
  rintro e w2 ⟨rfl, hb⟩
  rw [H1.out]
  replace B := thn B hb
  replace T := T.next hb
  replace U := U.next hb
  replace V := V.next hb
  clear hb
  obtain ⟨t0, t1, t2, t3, tl⟩ := id T
  obtain ⟨u0, u1, u2, u3, ul⟩ := id U
  obtain ⟨v0, v1, v2, v3, vl⟩ := id V
  go_wp2_with fail
  clear t0 t1 t2 t3 tl u0 u1 u2 u3 ul v0 v1 v2 v3 vl
  refine (dist_any _ _ _ _ _).mono ?_
  rintro e w2 ⟨rfl, hb⟩
  rw [H2.out]
  replace B := thn B hb
  replace T := T.next hb
  replace U := U.next hb
  replace V := V.next hb
  clear hb
  obtain ⟨t0, t1, t2, t3, tl⟩ := id T
  obtain ⟨u0, u1, u2, u3, ul⟩ := id U
  obtain ⟨v0, v1, v2, v3, vl⟩ := id V
  go_wp2_with fail
  clear t0 t1 t2 t3 tl u0 u1 u2 u3 ul v0 v1 v2 v3 vl
  refine (dist_any _ _ _ _ _).mono ?_
  rintro e w2 ⟨rfl, hb⟩
  rw [H3.out]
  replace B := thn B hb
  replace T := T.next hb
  replace U := U.next hb
  replace V := V.next hb
  clear hb
  obtain ⟨t0, t1, t2, t3, tl⟩ := id T
  obtain ⟨u0, u1, u2, u3, ul⟩ := id U
  obtain ⟨v0, v1, v2, v3, vl⟩ := id V
  go_wp2_with fail
  clear t0 t1 t2 t3 tl u0 u1 u2 u3 ul v0 v1 v2 v3 vl
  refine (dist_any _ _ _ _ _).mono ?_
  rintro e w2 ⟨rfl, hb⟩
  rw [H4.out]
  replace B := thn B hb
  replace T := T.next hb
  replace U := U.next hb
  replace V := V.next hb
  clear hb
  go_wp2
  go_ret
  exact ⟨rfl, B⟩
set_option maxHeartbeats 4000000 in
theorem metric_b (a b c d e f x : Int) (w : World) (h1 : dstv a b c d = (x, 0)) (h2 : dstv c d e f = (0, 1)) (h3 : dstv a b e f = (0, 1)) (h4 : dstv c d a b = (x, 0)) (q : (x == x) = true) :
    Calls Try.prog 6 #[posV a b, posV c d, posV e f] w fun e w' => e = .returned (.bool true) ∧ Below w.heap.size w w' := by
  have H1 := Lib.hid h1
  clear h1
  have H2 := Lib.hid h2
  clear h2
  have H3 := Lib.hid h3
  clear h3
  have H4 := Lib.hid h4
  clear h4
  go_enter Try.func6, Try.ntmps6
  go_wp2_with fail
  refine (awake_any _).mono ?_
  rintro e w1 ⟨rfl, hb⟩
  have B := thn (below_alloc3 w _ _ _) hb
  have T := (((c2_new w (.int .i64 a) (.int .i64 b) 23).alc _).alc _).next hb
  have U := ((c2_new _ (.int .i64 c) (.int .i64 d) 23).alc _).next hb
  have V := (c2_new _ (.int .i64 e) (.int .i64 f) 23).next hb
  simp only [World.alloc, Array.size_push] at U V
  clear hb
  obtain ⟨t0, t1, t2, t3, tl⟩ := id T
  obtain ⟨u0, u1, u2, u3, ul⟩ := id U
  obtain ⟨v0, v1, v2, v3, vl⟩ := id V
  go_wp2_with fail
  clear t0 t1 t2 t3 tl u0 u1 u2 u3 ul v0 v1 v2 v3 vl
  refine (dist_any _ _ _ _ _).mono ?_
  rintro e w2 ⟨rfl, hb⟩
  rw [H1.out]
  replace B := thn B hb
  replace T := T.next hb
  replace U := U.next hb
  replace V := V.next hb
  clear hb
  obtain ⟨t0, t1, t2, t3, tl⟩ := id T
  obtain ⟨u0, u1, u2, u3, ul⟩ := id U
  obtain ⟨v0, v1, v2, v3, vl⟩ := id V
  go_wp2_with fail
  clear t0 t1 t2 t3 tl u0 u1 u2 u3 ul v0 v1 v2 v3 vl
  refine (dist_any _ _ _ _ _).mono ?_
  rintro e w2 ⟨rfl, hb⟩
  rw [H2.out]
  replace B := thn B hb
  replace T := T.next hb
  replace U := U.next hb
  replace V := V.next hb
  clear hb
  obtain ⟨t0, t1, t2, t3, tl⟩ := id T
  obtain ⟨u0, u1, u2, u3, ul⟩ := id U
  obtain ⟨v0, v1, v2, v3, vl⟩ := id V
  go_wp2_with fail
  clear t0 t1 t2 t3 tl u0 u1 u2 u3 ul v0 v1 v2 v3 vl
  refine (dist_any _ _ _ _ _).mono ?_
  rintro e w2 ⟨rfl, hb⟩
  rw [H3.out]
  replace B := thn B hb
  replace T := T.next hb
  replace U := U.next hb
  replace V := V.next hb
  clear hb
  obtain ⟨t0, t1, t2, t3, tl⟩ := id T
  obtain ⟨u0, u1, u2, u3, ul⟩ := id U
  obtain ⟨v0, v1, v2, v3, vl⟩ := id V
  go_wp2_with fail
  clear t0 t1 t2 t3 tl u0 u1 u2 u3 ul v0 v1 v2 v3 vl
  refine (dist_any _ _ _ _ _).mono ?_
  rintro e w2 ⟨rfl, hb⟩
  rw [H4.out]
  replace B := thn B hb
  replace T := T.next hb
  replace U := U.next hb
  replace V := V.next hb
  clear hb
  go_wp2
  go_ret
  exact ⟨rfl, B⟩
set_option maxHeartbeats 4000000 in
theorem metric_c (a b c d e f x y z : Int) (w : World) (h1 : dstv a b c d = (x, 0)) (h2 : dstv c d e f = (y, 0)) (h3 : dstv a b e f = (z, 0)) (h4 : dstv c d a b = (x, 0)) (h5 : dstv a b a b = (0, 0)) (q : (x == x) = true) (x0 : 0 ≤ x) (x1 : x ≤ 64800000) (y0 : 0 ≤ y) (y1 : y ≤ 64800000) (zz : z ≤ x + y + 6) :
    Calls Try.prog 6 #[posV a b, posV c d, posV e f] w fun e w' => e = .returned (.bool true) ∧ Below w.heap.size w w' := by
  have H1 := Lib.hid h1
  clear h1
  have H2 := Lib.hid h2
  clear h2
  have H3 := Lib.hid h3
  clear h3
  have H4 := Lib.hid h4
  clear h4
  have H5 := Lib.hid h5
  clear h5
  have e1 : IntKind.i64.wrap (x + y) = x + y := IntWalk.i64_in _ (by omega)
  have e2 : IntKind.i64.wrap (x + y + 6) = x + y + 6 := IntWalk.i64_in _ (by omega)
  go_enter Try.func6, Try.ntmps6
  go_wp2_with fail
  refine (awake_any _).mono ?_
  rintro e w1 ⟨rfl, hb⟩
  have B := thn (below_alloc3 w _ _ _) hb
  have T := (((c2_new w (.int .i64 a) (.int .i64 b) 23).alc _).alc _).next hb
  have U := ((c2_new _ (.int .i64 c) (.int .i64 d) 23).alc _).next hb
  have V := (c2_new _ (.int .i64 e) (.int .i64 f) 23).next hb
  simp only [World.alloc, Array.size_push] at U V
  clear hb
  obtain ⟨t0, t1, t2, t3, tl⟩ := id T
  obtain ⟨u0, u1, u2, u3, ul⟩ := id U
  obtain ⟨v0, v1, v2, v3, vl⟩ := id V
  go_wp2_with fail
  clear t0 t1 t2 t3 tl u0 u1 u2 u3 ul v0 v1 v2 v3 vl
  refine (dist_any _ _ _ _ _).mono ?_
  rintro e w2 ⟨rfl, hb⟩
  rw [H1.out]
  replace B := thn B hb
  replace T := T.next hb
  replace U := U.next hb
  replace V := V.next hb
  clear hb
  obtain ⟨t0, t1, t2, t3, tl⟩ := id T
  obtain ⟨u0, u1, u2, u3, ul⟩ := id U
  obtain ⟨v0, v1, v2, v3, vl⟩ := id V
  go_wp2_with fail
  clear t0 t1 t2 t3 tl u0 u1 u2 u3 ul v0 v1 v2 v3 vl
  refine (dist_any _ _ _ _ _).mono ?_
  rintro e w2 ⟨rfl, hb⟩
  rw [H2.out]
  replace B := thn B hb
  replace T := T.next hb
  replace U := U.next hb
  replace V := V.next hb
  clear hb
  obtain ⟨t0, t1, t2, t3, tl⟩ := id T
  obtain ⟨u0, u1, u2, u3, ul⟩ := id U
  obtain ⟨v0, v1, v2, v3, vl⟩ := id V
  go_wp2_with fail
  clear t0 t1 t2 t3 tl u0 u1 u2 u3 ul v0 v1 v2 v3 vl
  refine (dist_any _ _ _ _ _).mono ?_
  rintro e w2 ⟨rfl, hb⟩
  rw [H3.out]
  replace B := thn B hb
  replace T := T.next hb
  replace U := U.next hb
  replace V := V.next hb
  clear hb
  obtain ⟨t0, t1, t2, t3, tl⟩ := id T
  obtain ⟨u0, u1, u2, u3, ul⟩ := id U
  obtain ⟨v0, v1, v2, v3, vl⟩ := id V
  go_wp2_with fail
  clear t0 t1 t2 t3 tl u0 u1 u2 u3 ul v0 v1 v2 v3 vl
  refine (dist_any _ _ _ _ _).mono ?_
  rintro e w2 ⟨rfl, hb⟩
  rw [H4.out]
  replace B := thn B hb
  replace T := T.next hb
  replace U := U.next hb
  replace V := V.next hb
  clear hb
  obtain ⟨t0, t1, t2, t3, tl⟩ := id T
  obtain ⟨u0, u1, u2, u3, ul⟩ := id U
  obtain ⟨v0, v1, v2, v3, vl⟩ := id V
  go_wp2_with fail
  clear t0 t1 t2 t3 tl u0 u1 u2 u3 ul v0 v1 v2 v3 vl
  refine (dist_any _ _ _ _ _).mono ?_
  rintro e w2 ⟨rfl, hb⟩
  rw [H5.out]
  replace B := thn B hb
  replace T := T.next hb
  replace U := U.next hb
  replace V := V.next hb
  clear hb
  go_wp2
  go_ret
  exact ⟨rfl, B⟩
theorem sphereMetric_walk (a b : Int) (_ : -9223372036854775808 ≤ a ∧ a ≤ 9223372036854775807) (_ : -9223372036854775808 ≤ b ∧ b ≤ 9223372036854775807) (c d : Int) (_ : -9223372036854775808 ≤ c ∧ c ≤ 9223372036854775807) (_ : -9223372036854775808 ≤ d ∧ d ≤ 9223372036854775807) (e f : Int) (_ : -9223372036854775808 ≤ e ∧ e ≤ 9223372036854775807) (_ : -9223372036854775808 ≤ f ∧ f ≤ 9223372036854775807) (w : World) :
    Calls Try.prog 6 #[posV a b, posV c d, posV e f] w fun e w' => e = .returned (.bool true) ∧ Below w.heap.size w w' := by
  cases h1 : vd a b
  · exact metric_a a b c d e f _ _ _ _ w (by simp [dstv, h1]) rfl rfl (by simp [dstv, h1])
  cases h2 : vd c d
  · exact metric_a a b c d e f _ _ _ _ w (by simp [dstv, h2]) rfl rfl (by simp [dstv, h2])
  cases h3 : vd e f
  · exact metric_b a b c d e f (dv a b c d) w (by simp [dstv, h1, h2]) (by simp [dstv, h3]) (by simp [dstv, h3]) (by simp [dstv, h1, h2, dv_sym c d a b]) (beq_self_eq_true _)
  · have b1 := dv_b a b c d
    have b2 := dv_b c d e f
    exact metric_c a b c d e f (dv a b c d) (dv c d e f) (dv a b e f) w (by simp [dstv, h1, h2]) (by simp [dstv, h2, h3]) (by simp [dstv, h1, h3]) (by simp [dstv, h1, h2, dv_sym c d a b]) (by simp [dstv, h1, dv_self]) (beq_self_eq_true _) b1.1 b1.2 b2.1 b2.2 (dist_tri a b c d e f)
end Go.Proofs.Ytgcmmfclnialfaa
