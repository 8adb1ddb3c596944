/- The examples of package sphere's chapter hold. -/
import Derived.Test.YtgcmmfclnialfaaSphT
import Derived.Test.YtgcmmfclnialfaaSphV
import Derived.Deep.RegionHeld3
import Derived.Deep.DeepCutAuto
namespace Go.Proofs.Ytgcmmfclnialfaa
open Go.RowKit Go.Joins Fdk
set_option linter.unusedVariables false
set_option maxHeartbeats 4000000 in
theorem awake_any (w : World) : Calls Try.prog 15 #[] w fun e w' => e = .returned (.bool true) ∧ Below w.heap.size w w' := by
  go_enter Try.func15, Try.ntmps15
  go_wp2_with fail
  refine (Of_any _ _ _).mono ?_
  rintro e w1 ⟨rfl, hb⟩
  rw [ex_of]
  have B := thn (below_alloc2 w _ _) hb
  have T := ((c2_new w (.int .i64 0) (.int .i64 0) 23).alc _).next hb
  have U := (c2_new _ (.int .i64 32400000) (.int .i64 0) 23).next hb
  simp only [World.alloc, Array.size_push] at U
  have V := c3_new w1 (.int .i64 0) (.int .i64 0) (.int .i64 1073741824) 26
  replace T := T.alc (.cells #[.int .i64 0, .int .i64 0, .int .i64 1073741824] 26)
  replace U := U.alc (.cells #[.int .i64 0, .int .i64 0, .int .i64 1073741824] 26)
  replace B := alc B (.cells #[.int .i64 0, .int .i64 0, .int .i64 1073741824] 26)
  clear hb
  obtain ⟨t0, t1, t2, t3, tl⟩ := id T
  go_wp2_with fail
  clear t0 t1 t2 t3 tl
  generalize w1.alloc (.cells #[.int .i64 0, .int .i64 0, .int .i64 1073741824] 26) = v1 at *
  generalize w1.heap.size = bv at *
  refine (dist_any _ _ _ _ _).mono ?_
  rintro e w2 ⟨rfl, hb⟩
  rw [ex_dist]
  replace B := thn B hb
  replace T := T.next hb
  replace U := U.next hb
  replace V := V.next hb
  clear hb
  obtain ⟨t0, t1, t2, t3, tl⟩ := id T
  go_wp2_with fail
  clear t0 t1 t2 t3 tl
  refine (course_any _ _ _ _ _).mono ?_
  rintro e w3 ⟨rfl, hb⟩
  rw [ex_c1]
  replace B := thn B hb
  replace T := T.next hb
  replace U := U.next hb
  replace V := V.next hb
  clear hb
  obtain ⟨t0, t1, t2, t3, tl⟩ := id T
  go_wp2_with fail
  clear t0 t1 t2 t3 tl
  refine (course_any _ _ _ _ _).mono ?_
  rintro e w4 ⟨rfl, hb⟩
  rw [ex_c2]
  replace B := thn B hb
  replace T := T.next hb
  replace U := U.next hb
  replace V := V.next hb
  clear hb
  obtain ⟨t0, t1, t2, t3, tl⟩ := id T
  obtain ⟨v0, v1', v2, v3, v4, v5, vl⟩ := id V
  go_wp2_with fail
  clear t0 t1 t2 t3 tl v0 v1' v2 v3 v4 v5 vl V
  refine (along_any _ _ _ _ _).mono ?_
  rintro e w5 ⟨rfl, hb⟩
  rw [ex_a1]
  have P := c2_new w5 (.int .i64 32400000) (.int .i64 0) 23
  replace B := alc (thn B hb) (.cells #[.int .i64 32400000, .int .i64 0] 23)
  replace T := (T.next hb).alc (.cells #[.int .i64 32400000, .int .i64 0] 23)
  replace U := (U.next hb).alc (.cells #[.int .i64 32400000, .int .i64 0] 23)
  clear hb
  obtain ⟨t0, t1, t2, t3, tl⟩ := id T
  go_wp2_with fail
  clear t0 t1 t2 t3 tl T
  generalize w5.alloc (.cells #[.int .i64 32400000, .int .i64 0] 23) = v5 at *
  generalize w5.heap.size = bp at *
  refine (along_any _ _ _ _ _).mono ?_
  rintro e w6 ⟨rfl, hb⟩
  rw [ex_a2]
  have Q := c2_new w6 (.int .i64 0) (.int .i64 10800000) 23
  replace B := alc (thn B hb) (.cells #[.int .i64 0, .int .i64 10800000] 23)
  replace U := (U.next hb).alc (.cells #[.int .i64 0, .int .i64 10800000] 23)
  replace P := (P.next hb).alc (.cells #[.int .i64 0, .int .i64 10800000] 23)
  clear hb
  obtain ⟨t0, t1, t2, t3, tl⟩ := id U
  obtain ⟨p0, p1, p2, p3, pl⟩ := id P
  obtain ⟨q0, q1, q2, q3, ql⟩ := id Q
  go_wp2
  go_ret
  exact ⟨rfl, B⟩
end Go.Proofs.Ytgcmmfclnialfaa
