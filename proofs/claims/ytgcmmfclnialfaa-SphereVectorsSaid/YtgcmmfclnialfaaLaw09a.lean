/- The laws of chapter 9 whose two sides are equal. -/
import Derived.Test.YtgcmmfclnialfaaAwake09
import Derived.Test.YtgcmmfclnialfaaSphS
import Derived.Test.YtgcmmfclnialfaaSphO
namespace Go.Proofs.Ytgcmmfclnialfaa
open Go.RowKit Go.Joins Fdk
set_option linter.unusedVariables false
theorem beq_rfl (x : Int) : (x == x) = true := by simp
set_option maxHeartbeats 1600000 in
theorem sphereLocals_walk (a b : Int) (_ : -9223372036854775808 ≤ a ∧ a ≤ 9223372036854775807) (_ : -9223372036854775808 ≤ b ∧ b ≤ 9223372036854775807) (c d : Int) (_ : -9223372036854775808 ≤ c ∧ c ≤ 9223372036854775807) (_ : -9223372036854775808 ≤ d ∧ d ≤ 9223372036854775807) (w : World) :
    Calls Try.prog 11 #[posV a b, posV c d] w fun e w' => e = .returned (.bool true) ∧ Below w.heap.size w w' := by
  go_enter Try.func11, Try.ntmps11
  go_wp2_with fail
  refine (awake_any _).mono ?_
  rintro e w1 ⟨rfl, hb⟩
  have B := thn (below_alloc2 w _ _) hb
  have T := ((c2_new w (.int .i64 a) (.int .i64 b) 23).alc _).next hb
  have U := (c2_new _ (.int .i64 c) (.int .i64 d) 23).next hb
  simp only [World.alloc, Array.size_push] at U
  clear hb
  obtain ⟨t0, t1, t2, t3, tl⟩ := id T
  obtain ⟨u0, u1, u2, u3, ul⟩ := id U
  go_wp2_with fail
  clear t0 t1 t2 t3 tl u0 u1 u2 u3 ul
  refine (Local_any _ _ _ _ _).mono ?_
  rintro e w2 ⟨rfl, hb⟩
  replace B := alc (thn B hb) (.cells #[.int .i64 (lclv a b c d).1, .int .i64 (lclv a b c d).2.1, .int .i64 (lclv a b c d).2.2.1] 26)
  replace T := (T.next hb).alc (.cells #[.int .i64 (lclv a b c d).1, .int .i64 (lclv a b c d).2.1, .int .i64 (lclv a b c d).2.2.1] 26)
  replace U := (U.next hb).alc (.cells #[.int .i64 (lclv a b c d).1, .int .i64 (lclv a b c d).2.1, .int .i64 (lclv a b c d).2.2.1] 26)
  have V := c3_new w2 (.int .i64 (lclv a b c d).1) (.int .i64 (lclv a b c d).2.1) (.int .i64 (lclv a b c d).2.2.1) 26
  clear hb
  obtain ⟨t0, t1, t2, t3, tl⟩ := id T
  obtain ⟨u0, u1, u2, u3, ul⟩ := id U
  go_wp2_with fail
  clear t0 t1 t2 t3 tl u0 u1 u2 u3 ul T U
  generalize w2.alloc (.cells #[.int .i64 (lclv a b c d).1, .int .i64 (lclv a b c d).2.1, .int .i64 (lclv a b c d).2.2.1] 26) = v2 at *
  generalize w2.heap.size = bv at *
  refine (rLocal_any _ _ _ _ _).mono ?_
  rintro e w3 ⟨rfl, hb⟩
  replace B := alc (thn B hb) (.cells #[.int .i64 (lclv a b c d).1, .int .i64 (lclv a b c d).2.1, .int .i64 (lclv a b c d).2.2.1] 26)
  replace V := (V.next hb).alc (.cells #[.int .i64 (lclv a b c d).1, .int .i64 (lclv a b c d).2.1, .int .i64 (lclv a b c d).2.2.1] 26)
  have V2 := c3_new w3 (.int .i64 (lclv a b c d).1) (.int .i64 (lclv a b c d).2.1) (.int .i64 (lclv a b c d).2.2.1) 26
  clear hb
  generalize lclv a b c d = R at *
  have q0 := beq_rfl R.1
  have q1 := beq_rfl R.2.1
  have q2 := beq_rfl R.2.2.1
  have q3 := beq_rfl R.2.2.2
  obtain ⟨t0, t1, t2, t3, t4, t5, tl⟩ := id V
  obtain ⟨u0, u1, u2, u3, u4, u5, ul⟩ := id V2
  go_wp2
  go_ret
  exact ⟨rfl, B⟩
set_option maxHeartbeats 1600000 in
theorem sphereDists_walk (a b : Int) (_ : -9223372036854775808 ≤ a ∧ a ≤ 9223372036854775807) (_ : -9223372036854775808 ≤ b ∧ b ≤ 9223372036854775807) (c d : Int) (_ : -9223372036854775808 ≤ c ∧ c ≤ 9223372036854775807) (_ : -9223372036854775808 ≤ d ∧ d ≤ 9223372036854775807) (w : World) :
    Calls Try.prog 5 #[posV a b, posV c d] w fun e w' => e = .returned (.bool true) ∧ Below w.heap.size w w' := by
  go_enter Try.func5, Try.ntmps5
  go_wp2_with fail
  refine (awake_any _).mono ?_
  rintro e w1 ⟨rfl, hb⟩
  have B := thn (below_alloc2 w _ _) hb
  have T := ((c2_new w (.int .i64 a) (.int .i64 b) 23).alc _).next hb
  have U := (c2_new _ (.int .i64 c) (.int .i64 d) 23).next hb
  simp only [World.alloc, Array.size_push] at U
  clear hb
  obtain ⟨t0, t1, t2, t3, tl⟩ := id T
  obtain ⟨u0, u1, u2, u3, ul⟩ := id U
  go_wp2_with fail
  clear t0 t1 t2 t3 tl u0 u1 u2 u3 ul
  refine (dist_any _ _ _ _ _).mono ?_
  rintro e w2 ⟨rfl, hb⟩
  replace B := thn B hb
  replace T := T.next hb
  replace U := U.next hb
  clear hb
  obtain ⟨t0, t1, t2, t3, tl⟩ := id T
  obtain ⟨u0, u1, u2, u3, ul⟩ := id U
  go_wp2_with fail
  clear t0 t1 t2 t3 tl u0 u1 u2 u3 ul T U
  refine (rdist_any _ _ _ _ _).mono ?_
  rintro e w3 ⟨rfl, hb⟩
  replace B := thn B hb
  clear hb
  generalize dstv a b c d = R at *
  have q0 := beq_rfl R.1
  have q1 := beq_rfl R.2
  go_wp2
  go_ret
  exact ⟨rfl, B⟩
set_option maxHeartbeats 1600000 in
theorem sphereCourses_walk (a b : Int) (_ : -9223372036854775808 ≤ a ∧ a ≤ 9223372036854775807) (_ : -9223372036854775808 ≤ b ∧ b ≤ 9223372036854775807) (c d : Int) (_ : -9223372036854775808 ≤ c ∧ c ≤ 9223372036854775807) (_ : -9223372036854775808 ≤ d ∧ d ≤ 9223372036854775807) (w : World) :
    Calls Try.prog 7 #[posV a b, posV c d] w fun e w' => e = .returned (.bool true) ∧ Below w.heap.size w w' := by
  go_enter Try.func7, Try.ntmps7
  go_wp2_with fail
  refine (awake_any _).mono ?_
  rintro e w1 ⟨rfl, hb⟩
  have B := thn (below_alloc2 w _ _) hb
  have T := ((c2_new w (.int .i64 a) (.int .i64 b) 23).alc _).next hb
  have U := (c2_new _ (.int .i64 c) (.int .i64 d) 23).next hb
  simp only [World.alloc, Array.size_push] at U
  clear hb
  obtain ⟨t0, t1, t2, t3, tl⟩ := id T
  obtain ⟨u0, u1, u2, u3, ul⟩ := id U
  go_wp2_with fail
  clear t0 t1 t2 t3 tl u0 u1 u2 u3 ul
  refine (course_any _ _ _ _ _).mono ?_
  rintro e w2 ⟨rfl, hb⟩
  replace B := thn B hb
  replace T := T.next hb
  replace U := U.next hb
  clear hb
  obtain ⟨t0, t1, t2, t3, tl⟩ := id T
  obtain ⟨u0, u1, u2, u3, ul⟩ := id U
  go_wp2_with fail
  clear t0 t1 t2 t3 tl u0 u1 u2 u3 ul T U
  refine (rcourse_any _ _ _ _ _).mono ?_
  rintro e w3 ⟨rfl, hb⟩
  replace B := thn B hb
  clear hb
  generalize crs a b c d = R at *
  have q0 := beq_rfl R.1
  have q1 := beq_rfl R.2
  go_wp2
  go_ret
  exact ⟨rfl, B⟩
set_option maxHeartbeats 1600000 in
theorem sphereCrosses_walk (a b : Int) (_ : -9223372036854775808 ≤ a ∧ a ≤ 9223372036854775807) (_ : -9223372036854775808 ≤ b ∧ b ≤ 9223372036854775807) (t : Int) (_ : -9223372036854775808 ≤ t ∧ t ≤ 9223372036854775807) (c d : Int) (_ : -9223372036854775808 ≤ c ∧ c ≤ 9223372036854775807) (_ : -9223372036854775808 ≤ d ∧ d ≤ 9223372036854775807) (w : World) :
    Calls Try.prog 12 #[posV a b, .int .i64 t, posV c d] w fun e w' => e = .returned (.bool true) ∧ Below w.heap.size w w' := by
  go_enter Try.func12, Try.ntmps12
  go_wp2_with fail
  refine (awake_any _).mono ?_
  rintro e w1 ⟨rfl, hb⟩
  have B := thn (below_alloc2 w _ _) hb
  have T := ((c2_new w (.int .i64 a) (.int .i64 b) 23).alc _).next hb
  have U := (c2_new _ (.int .i64 c) (.int .i64 d) 23).next hb
  simp only [World.alloc, Array.size_push] at U
  clear hb
  obtain ⟨t0, t1, t2, t3, tl⟩ := id T
  obtain ⟨u0, u1, u2, u3, ul⟩ := id U
  go_wp2_with fail
  clear t0 t1 t2 t3 tl u0 u1 u2 u3 ul
  refine (cross_any _ _ _ _ _ _).mono ?_
  rintro e w2 ⟨rfl, hb⟩
  replace B := thn B hb
  replace T := T.next hb
  replace U := U.next hb
  clear hb
  obtain ⟨t0, t1, t2, t3, tl⟩ := id T
  obtain ⟨u0, u1, u2, u3, ul⟩ := id U
  go_wp2_with fail
  clear t0 t1 t2 t3 tl u0 u1 u2 u3 ul T U
  refine (rcross_any _ _ _ _ _ _).mono ?_
  rintro e w3 ⟨rfl, hb⟩
  replace B := thn B hb
  clear hb
  generalize crv a b t c d = R at *
  have q0 := beq_rfl R.1
  have q1 := beq_rfl R.2.1
  have q2 := beq_rfl R.2.2
  go_wp2
  go_ret
  exact ⟨rfl, B⟩
set_option maxHeartbeats 1600000 in
theorem sphereAlongs_walk (a b : Int) (_ : -9223372036854775808 ≤ a ∧ a ≤ 9223372036854775807) (_ : -9223372036854775808 ≤ b ∧ b ≤ 9223372036854775807) (t : Int) (_ : -9223372036854775808 ≤ t ∧ t ≤ 9223372036854775807) (s : Int) (_ : -9223372036854775808 ≤ s ∧ s ≤ 9223372036854775807) (w : World) :
    Calls Try.prog 8 #[posV a b, .int .i64 t, .int .i64 s] w fun e w' => e = .returned (.bool true) ∧ Below w.heap.size w w' := by
  have HA := Lib.hid (fun w => along_any a b t s w)
  have HR := Lib.hid (fun w => ralong_any a b t s w)
  generalize alv a b t s = R at HA HR
  go_enter Try.func8, Try.ntmps8
  go_wp2_with fail
  refine (awake_any _).mono ?_
  rintro e w1 ⟨rfl, hb⟩
  have B := thn (below_alloc1 w _) hb
  have T := (c2_new w (.int .i64 a) (.int .i64 b) 23).next hb
  clear hb
  obtain ⟨t0, t1, t2, t3, tl⟩ := id T
  go_wp2_with fail
  clear t0 t1 t2 t3 tl
  refine (HA.out _).mono ?_
  rintro e w2 ⟨rfl, hb⟩
  replace B := alc (thn B hb) (.cells #[.int .i64 R.1, .int .i64 R.2.1] 23)
  replace T := (T.next hb).alc (.cells #[.int .i64 R.1, .int .i64 R.2.1] 23)
  have V := c2_new w2 (.int .i64 R.1) (.int .i64 R.2.1) 23
  clear hb
  obtain ⟨t0, t1, t2, t3, tl⟩ := id T
  go_wp2_with fail
  clear t0 t1 t2 t3 tl T
  generalize w2.alloc (.cells #[.int .i64 R.1, .int .i64 R.2.1] 23) = v2 at *
  generalize w2.heap.size = bv at *
  refine (HR.out _).mono ?_
  rintro e w3 ⟨rfl, hb⟩
  replace B := alc (thn B hb) (.cells #[.int .i64 R.1, .int .i64 R.2.1] 23)
  replace V := (V.next hb).alc (.cells #[.int .i64 R.1, .int .i64 R.2.1] 23)
  have V2 := c2_new w3 (.int .i64 R.1) (.int .i64 R.2.1) 23
  clear hb HA HR
  have q0 := beq_rfl R.1
  have q1 := beq_rfl R.2.1
  have q2 := beq_rfl R.2.2
  obtain ⟨t0, t1, t2, t3, tl⟩ := id V
  obtain ⟨u0, u1, u2, u3, ul⟩ := id V2
  go_wp2
  go_ret
  exact ⟨rfl, B⟩
set_option maxHeartbeats 1600000 in
theorem spherePositions_walk (x y z : Int) (_ : -9223372036854775808 ≤ x ∧ x ≤ 9223372036854775807) (_ : -9223372036854775808 ≤ y ∧ y ≤ 9223372036854775807) (_ : -9223372036854775808 ≤ z ∧ z ≤ 9223372036854775807) (w : World) :
    Calls Try.prog 4 #[vecV x y z] w fun e w' => e = .returned (.bool true) ∧ Below w.heap.size w w' := by
  have HA := Lib.hid (fun w => pos_any x y z w)
  have HR := Lib.hid (fun w => rpos_any x y z w)
  have HV := Lib.hid (posn_valid x y z)
  generalize posn x y z = R at HA HR HV
  go_enter Try.func4, Try.ntmps4
  go_wp2_with fail
  refine (awake_any _).mono ?_
  rintro e w1 ⟨rfl, hb⟩
  have B := thn (below_alloc1 w _) hb
  have T := (c3_new w (.int .i64 x) (.int .i64 y) (.int .i64 z) 26).next hb
  clear hb
  obtain ⟨t0, t1, t2, t3, t4, t5, tl⟩ := id T
  go_wp2_with fail
  clear t0 t1 t2 t3 t4 t5 tl
  refine (HA.out _).mono ?_
  rintro e w2 ⟨rfl, hb⟩
  replace B := alc (thn B hb) (.cells #[.int .i64 R.1, .int .i64 R.2.1] 23)
  replace T := (T.next hb).alc (.cells #[.int .i64 R.1, .int .i64 R.2.1] 23)
  have V := c2_new w2 (.int .i64 R.1) (.int .i64 R.2.1) 23
  clear hb
  obtain ⟨t0, t1, t2, t3, t4, t5, tl⟩ := id T
  go_wp2_with fail
  clear t0 t1 t2 t3 t4 t5 tl T
  generalize w2.alloc (.cells #[.int .i64 R.1, .int .i64 R.2.1] 23) = v2 at *
  generalize w2.heap.size = bv at *
  refine (HR.out _).mono ?_
  rintro e w3 ⟨rfl, hb⟩
  replace B := alc (thn B hb) (.cells #[.int .i64 R.1, .int .i64 R.2.1] 23)
  replace V := (V.next hb).alc (.cells #[.int .i64 R.1, .int .i64 R.2.1] 23)
  have V2 := c2_new w3 (.int .i64 R.1) (.int .i64 R.2.1) 23
  clear hb HA HR
  have q0 := beq_rfl R.1
  have q1 := beq_rfl R.2.1
  have q2 := beq_rfl R.2.2
  obtain ⟨t0, t1, t2, t3, tl⟩ := id V
  obtain ⟨u0, u1, u2, u3, ul⟩ := id V2
  go_wp2_with fail
  refine (valid_any _ _ _).mono ?_
  rintro e w4 ⟨rfl, hb⟩
  replace B := thn B hb
  rw [HV.out]
  go_wp2
  go_ret
  exact ⟨rfl, B⟩
end Go.Proofs.Ytgcmmfclnialfaa
