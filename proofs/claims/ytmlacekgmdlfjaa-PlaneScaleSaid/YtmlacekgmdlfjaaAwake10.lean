/- The examples of package plane's chapter hold. -/
import Derived.Test.YtmlacekgmdlfjaaPlnF
namespace Go.Proofs.Ytmlacekgmdlfjaa
open Go.RowKit Go.Joins Fdk
set_option linter.unusedVariables false
set_option maxHeartbeats 4000000 in
theorem awake_any (w : World) : Calls Try.prog 11 #[] w fun e w' => e = .returned (.bool true) ∧ Below w.heap.size w w' := by
  go_enter Try.func11, Try.ntmps11
  go_wp2_with fail
  refine (to_any _ _ _ _ _).mono ?_
  rintro e w1 ⟨rfl, hb⟩
  rw [ex_t1]
  have B := alc (thn (below_alloc1 w _) hb) (.cells #[.int .i64 0, .int .i64 0] 25)
  have T := ((c2_new w (.int .i64 0) (.int .i64 0) 23).next hb).alc (.cells #[.int .i64 0, .int .i64 0] 25)
  have P := c2_new w1 (.int .i64 0) (.int .i64 0) 25
  clear hb
  obtain ⟨t0, t1, t2, t3, tl⟩ := id T
  go_wp2_with fail
  clear t0 t1 t2 t3 tl
  generalize w1.alloc (.cells #[.int .i64 0, .int .i64 0] 25) = v1 at *
  generalize w1.heap.size = bp at *
  refine (to_any _ _ _ _ _).mono ?_
  rintro e w2 ⟨rfl, hb⟩
  rw [ex_t2]
  replace B := alc (thn B hb) (.cells #[.int .i64 0, .int .i64 0] 25)
  replace T := (T.next hb).alc (.cells #[.int .i64 0, .int .i64 0] 25)
  replace P := (P.next hb).alc (.cells #[.int .i64 0, .int .i64 0] 25)
  clear hb
  obtain ⟨t0, t1, t2, t3, tl⟩ := id T
  go_wp2_with fail
  clear t0 t1 t2 t3 tl
  generalize w2.alloc (.cells #[.int .i64 0, .int .i64 0] 25) = v2 at *
  refine (to_any _ _ _ _ _).mono ?_
  rintro e w3 ⟨rfl, hb⟩
  rw [ex_t3]
  replace B := alc (thn B hb) (.cells #[.int .i64 0, .int .i64 0] 25)
  replace T := (T.next hb).alc (.cells #[.int .i64 0, .int .i64 0] 25)
  replace P := (P.next hb).alc (.cells #[.int .i64 0, .int .i64 0] 25)
  clear hb
  obtain ⟨t0, t1, t2, t3, tl⟩ := id T
  go_wp2_with fail
  clear t0 t1 t2 t3 tl
  generalize w3.alloc (.cells #[.int .i64 0, .int .i64 0] 25) = v3 at *
  refine (to_any _ _ _ _ _).mono ?_
  rintro e w4 ⟨rfl, hb⟩
  rw [ex_t4]
  replace B := alc (thn B hb) (.cells #[.int .i64 0, .int .i64 0] 25)
  replace T := (T.next hb).alc (.cells #[.int .i64 0, .int .i64 0] 25)
  replace P := (P.next hb).alc (.cells #[.int .i64 0, .int .i64 0] 25)
  clear hb
  obtain ⟨t0, t1, t2, t3, tl⟩ := id T
  go_wp2_with fail
  clear t0 t1 t2 t3 tl
  generalize w4.alloc (.cells #[.int .i64 0, .int .i64 0] 25) = v4 at *
  refine (from_any _ _ _ _ _).mono ?_
  rintro e w5 ⟨rfl, hb⟩
  rw [ex_f]
  replace B := alc (thn B hb) (.cells #[.int .i64 0, .int .i64 599830] 23)
  replace P := (P.next hb).alc (.cells #[.int .i64 0, .int .i64 599830] 23)
  have Q := c2_new w5 (.int .i64 0) (.int .i64 599830) 23
  clear hb T
  obtain ⟨p0, p1, p2, p3, pl⟩ := id P
  obtain ⟨q0, q1, q2, q3, ql⟩ := id Q
  go_wp2
  go_ret
  exact ⟨rfl, B⟩
end Go.Proofs.Ytmlacekgmdlfjaa
