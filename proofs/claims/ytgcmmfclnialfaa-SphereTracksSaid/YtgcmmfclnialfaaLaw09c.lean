/- The law of chapter 9 on distances along a great circle. -/
import Derived.Test.YtgcmmfclnialfaaRotQ
import Derived.Test.YtgcmmfclnialfaaAwake09
namespace Go.Proofs.Ytgcmmfclnialfaa
open Go.RowKit Go.Joins Fdk
set_option linter.unusedVariables false
theorem sn_k7 : sn 7 = 365 := by decide +kernel
theorem sn_k11 : sn 11 = 573 := by decide +kernel
theorem alv_mod (a b t s : Int) : alv a b (t % 129600000) s = alv a b t s := by
  unfold alv
  rw [sn_mod, cn_mod]
theorem x_zero (a b t : Int) : xX a b t 0 = CC a * CC b ∧ xY a b t 0 = CC a * SS b ∧ xZ a b t 0 = SS a := by
  have h1 : CC 0 = 1 := by decide +kernel
  have h2 : SS 0 = 0 := by decide +kernel
  unfold xX xY xZ
  rw [h1, h2]
  refine ⟨?_, ?_, ?_⟩ <;> grind
theorem along_plain (a b t s : Int) (hv : vd a b = true) (s0 : 0 ≤ s ∧ s ≤ 64800000) : ∃ c d, alv a b t s = (c, d, 0) ∧ vd c d = true ∧
    nrm ((rd (cn c * cn d) : Rat) - 1073741824 * xX a b (t % 129600000) s) ((rd (cn c * sn d) : Rat) - 1073741824 * xY a b (t % 129600000) s) ((sn c : Rat) - 1073741824 * xZ a b (t % 129600000) s) (1177/10) := by
  have hn := along_near (t := t % 129600000) hv (by omega) s0
  obtain ⟨c, d, hp, hc, hq⟩ := posn_near _ _ _ _ _ _ 27 84 (by grind) (by grind) (x_unit a b (t % 129600000) s) hn (by grind)
  refine ⟨c, d, ?_, hc, nrm_mono hq (by grind)⟩
  rw [← alv_mod]
  unfold alv
  rw [if_pos hv, if_neg (by omega)]
  exact hp
theorem reaches_plain (a b t s1 s2 : Int) (hv : vd a b = true) (h0 : 0 ≤ s1) (h1 : s1 ≤ s2) (h2 : s2 ≤ 64800000) : ∃ c d e f, alv a b t s1 = (c, d, 0) ∧ alv a b t s2 = (e, f, 0) ∧ dstv a b c d = (dv a b c d, 0) ∧ dstv c d e f = (dv c d e f, 0) ∧
    (-6 ≤ dv a b c d - s1 ∧ dv a b c d - s1 ≤ 6) ∧ (-10 ≤ dv c d e f - (s2 - s1) ∧ dv c d e f - (s2 - s1) ≤ 10) ∧ (0 ≤ dv a b c d ∧ dv a b c d < 129600000) ∧ 0 ≤ dv c d e f ∧ dv c d e f < 129600000 := by
  obtain ⟨c, d, p1, v1, n1⟩ := along_plain a b t s1 hv ⟨h0, by omega⟩
  obtain ⟨e, f, p2, v2, n2⟩ := along_plain a b t s2 hv ⟨by omega, h2⟩
  have n0 := of_nrm hv
  have ⟨z0, z1, z2⟩ := x_zero a b (t % 129600000)
  rw [← z0, ← z1, ← z2] at n0
  have k6 : ((sn (6 + 1) : Int) : Rat) = 365 := by rw [show (6 : Int) + 1 = 7 from rfl, sn_k7]; rfl
  have k10 : ((sn (10 + 1) : Int) : Rat) = 573 := by rw [show (10 : Int) + 1 = 11 from rfl, sn_k11]; rfl
  have d1 := dist_near a b c d s1 6 hv v1 ⟨h0, by omega⟩ (by omega) (by omega) _ _ _ _ _ _ _ _ (x_unit a b (t % 129600000) 0) (x_unit a b (t % 129600000) s1) (by rw [x_dot]; congr 1; omega) n0 n1 (by grind) (by grind) (by rw [k6]; grind)
  have d2 := dist_near c d e f (s2 - s1) 10 v1 v2 ⟨by omega, by omega⟩ (by omega) (by omega) _ _ _ _ _ _ _ _ (x_unit a b (t % 129600000) s1) (x_unit a b (t % 129600000) s2) (by rw [x_dot]) n1 n2 (by grind) (by grind) (by rw [k10]; grind)
  exact ⟨c, d, e, f, p1, p2, d1.1, d2.1, d1.2.2, d2.2.2, ⟨d1.2.1, by omega⟩, d2.2.1, by omega⟩
--WALK
set_option maxHeartbeats 4000000 in
theorem reaches_a (a b t x y : Int) (w : World) (he : alv a b t (min x y) = (0, 0, 1)) (hf : alv a b t (max x y) = (0, 0, 1)) :
    Calls Try.prog 9 #[posV a b, .int .i64 t, .agg #[.int .i64 x, .int .i64 y]] w fun e w' => e = .returned (.bool true) ∧ Below w.heap.size w w' := by
  have HE := Lib.hid he
  have HF := Lib.hid hf
  clear he hf
  go_enter Try.func9, Try.ntmps9
  go_wp2_with fail
  refine (awake_any _).mono ?_
  rintro e w1 ⟨rfl, hb⟩
  have B := thn (below_alloc2 w _ _) hb
  have T := ((c2_new w (.int .i64 a) (.int .i64 b) 23).alc _).next hb
  have U := (c2_new _ (.int .i64 x) (.int .i64 y) 39).next hb
  simp only [World.alloc, Array.size_push] at U
  clear hb
  obtain ⟨t0, t1, t2, t3, tl⟩ := id T
  obtain ⟨u0, u1, u2, u3, ul⟩ := id U
  go_wp2_with fail
  go_quiet (fail)
  replace T := T.next (below_draws _ w1 nq)
  replace B := thn B (below_draws _ w1 nq)
  clear t0 t1 t2 t3 tl u0 u1 u2 u3 ul U
  generalize w1.drewN nq = v1 at *
  obtain ⟨t0, t1, t2, t3, tl⟩ := id T
  generalize min x y = m1 at *
  generalize max x y = m2 at *
  go_wp2_with fail
  clear t0 t1 t2 t3 tl
  refine (along_any _ _ _ _ _).mono ?_
  rintro e w2 ⟨rfl, hb⟩
  rw [HE.out]
  replace B := alc (thn B hb) (.cells #[.int .i64 0, .int .i64 0] 23)
  replace T := (T.next hb).alc (.cells #[.int .i64 0, .int .i64 0] 23)
  have Q := c2_new w2 (.int .i64 0) (.int .i64 0) 23
  clear hb
  obtain ⟨t0, t1, t2, t3, tl⟩ := id T
  go_wp2_with fail
  clear t0 t1 t2 t3 tl
  generalize w2.alloc (.cells #[.int .i64 0, .int .i64 0] 23) = v2 at *
  generalize w2.heap.size = bq at *
  refine (along_any _ _ _ _ _).mono ?_
  rintro e w3 ⟨rfl, hb⟩
  rw [HF.out]
  replace B := alc (thn B hb) (.cells #[.int .i64 0, .int .i64 0] 23)
  replace T := (T.next hb).alc (.cells #[.int .i64 0, .int .i64 0] 23)
  replace Q := (Q.next hb).alc (.cells #[.int .i64 0, .int .i64 0] 23)
  have R := c2_new w3 (.int .i64 0) (.int .i64 0) 23
  clear hb
  go_wp2
  go_ret
  exact ⟨rfl, B⟩
set_option maxHeartbeats 4000000 in
theorem reaches_b (a b t x y : Int) (w : World) (he : alv a b t (min x y) = (0, 0, 2)) (hf : alv a b t (max x y) = (0, 0, 2)) :
    Calls Try.prog 9 #[posV a b, .int .i64 t, .agg #[.int .i64 x, .int .i64 y]] w fun e w' => e = .returned (.bool true) ∧ Below w.heap.size w w' := by
  have HE := Lib.hid he
  have HF := Lib.hid hf
  clear he hf
  go_enter Try.func9, Try.ntmps9
  go_wp2_with fail
  refine (awake_any _).mono ?_
  rintro e w1 ⟨rfl, hb⟩
  have B := thn (below_alloc2 w _ _) hb
  have T := ((c2_new w (.int .i64 a) (.int .i64 b) 23).alc _).next hb
  have U := (c2_new _ (.int .i64 x) (.int .i64 y) 39).next hb
  simp only [World.alloc, Array.size_push] at U
  clear hb
  obtain ⟨t0, t1, t2, t3, tl⟩ := id T
  obtain ⟨u0, u1, u2, u3, ul⟩ := id U
  go_wp2_with fail
  go_quiet (fail)
  replace T := T.next (below_draws _ w1 nq)
  replace B := thn B (below_draws _ w1 nq)
  clear t0 t1 t2 t3 tl u0 u1 u2 u3 ul U
  generalize w1.drewN nq = v1 at *
  obtain ⟨t0, t1, t2, t3, tl⟩ := id T
  generalize min x y = m1 at *
  generalize max x y = m2 at *
  go_wp2_with fail
  clear t0 t1 t2 t3 tl
  refine (along_any _ _ _ _ _).mono ?_
  rintro e w2 ⟨rfl, hb⟩
  rw [HE.out]
  replace B := alc (thn B hb) (.cells #[.int .i64 0, .int .i64 0] 23)
  replace T := (T.next hb).alc (.cells #[.int .i64 0, .int .i64 0] 23)
  have Q := c2_new w2 (.int .i64 0) (.int .i64 0) 23
  clear hb
  obtain ⟨t0, t1, t2, t3, tl⟩ := id T
  go_wp2_with fail
  clear t0 t1 t2 t3 tl
  generalize w2.alloc (.cells #[.int .i64 0, .int .i64 0] 23) = v2 at *
  generalize w2.heap.size = bq at *
  refine (along_any _ _ _ _ _).mono ?_
  rintro e w3 ⟨rfl, hb⟩
  rw [HF.out]
  replace B := alc (thn B hb) (.cells #[.int .i64 0, .int .i64 0] 23)
  replace T := (T.next hb).alc (.cells #[.int .i64 0, .int .i64 0] 23)
  replace Q := (Q.next hb).alc (.cells #[.int .i64 0, .int .i64 0] 23)
  have R := c2_new w3 (.int .i64 0) (.int .i64 0) 23
  clear hb
  go_wp2
  go_ret
  exact ⟨rfl, B⟩
set_option maxHeartbeats 4000000 in
theorem reaches_c (a b t x y e f : Int) (w : World) (he : alv a b t (min x y) = (0, 0, 2)) (hf : alv a b t (max x y) = (e, f, 0)) :
    Calls Try.prog 9 #[posV a b, .int .i64 t, .agg #[.int .i64 x, .int .i64 y]] w fun e w' => e = .returned (.bool true) ∧ Below w.heap.size w w' := by
  have HE := Lib.hid he
  have HF := Lib.hid hf
  clear he hf
  go_enter Try.func9, Try.ntmps9
  go_wp2_with fail
  refine (awake_any _).mono ?_
  rintro e w1 ⟨rfl, hb⟩
  have B := thn (below_alloc2 w _ _) hb
  have T := ((c2_new w (.int .i64 a) (.int .i64 b) 23).alc _).next hb
  have U := (c2_new _ (.int .i64 x) (.int .i64 y) 39).next hb
  simp only [World.alloc, Array.size_push] at U
  clear hb
  obtain ⟨t0, t1, t2, t3, tl⟩ := id T
  obtain ⟨u0, u1, u2, u3, ul⟩ := id U
  go_wp2_with fail
  go_quiet (fail)
  replace T := T.next (below_draws _ w1 nq)
  replace B := thn B (below_draws _ w1 nq)
  clear t0 t1 t2 t3 tl u0 u1 u2 u3 ul U
  generalize w1.drewN nq = v1 at *
  obtain ⟨t0, t1, t2, t3, tl⟩ := id T
  generalize min x y = m1 at *
  generalize max x y = m2 at *
  go_wp2_with fail
  clear t0 t1 t2 t3 tl
  refine (along_any _ _ _ _ _).mono ?_
  rintro e w2 ⟨rfl, hb⟩
  rw [HE.out]
  replace B := alc (thn B hb) (.cells #[.int .i64 0, .int .i64 0] 23)
  replace T := (T.next hb).alc (.cells #[.int .i64 0, .int .i64 0] 23)
  have Q := c2_new w2 (.int .i64 0) (.int .i64 0) 23
  clear hb
  obtain ⟨t0, t1, t2, t3, tl⟩ := id T
  go_wp2_with fail
  clear t0 t1 t2 t3 tl
  generalize w2.alloc (.cells #[.int .i64 0, .int .i64 0] 23) = v2 at *
  generalize w2.heap.size = bq at *
  refine (along_any _ _ _ _ _).mono ?_
  rintro e w3 ⟨rfl, hb⟩
  rw [HF.out]
  replace B := alc (thn B hb) (.cells #[.int .i64 e, .int .i64 f] 23)
  replace T := (T.next hb).alc (.cells #[.int .i64 e, .int .i64 f] 23)
  replace Q := (Q.next hb).alc (.cells #[.int .i64 e, .int .i64 f] 23)
  have R := c2_new w3 (.int .i64 e) (.int .i64 f) 23
  clear hb
  go_wp2
  go_ret
  exact ⟨rfl, B⟩
set_option maxHeartbeats 4000000 in
theorem reaches_d (a b t x y c d : Int) (w : World) (he : alv a b t (min x y) = (c, d, 0)) (hf : alv a b t (max x y) = (0, 0, 2)) :
    Calls Try.prog 9 #[posV a b, .int .i64 t, .agg #[.int .i64 x, .int .i64 y]] w fun e w' => e = .returned (.bool true) ∧ Below w.heap.size w w' := by
  have HE := Lib.hid he
  have HF := Lib.hid hf
  clear he hf
  go_enter Try.func9, Try.ntmps9
  go_wp2_with fail
  refine (awake_any _).mono ?_
  rintro e w1 ⟨rfl, hb⟩
  have B := thn (below_alloc2 w _ _) hb
  have T := ((c2_new w (.int .i64 a) (.int .i64 b) 23).alc _).next hb
  have U := (c2_new _ (.int .i64 x) (.int .i64 y) 39).next hb
  simp only [World.alloc, Array.size_push] at U
  clear hb
  obtain ⟨t0, t1, t2, t3, tl⟩ := id T
  obtain ⟨u0, u1, u2, u3, ul⟩ := id U
  go_wp2_with fail
  go_quiet (fail)
  replace T := T.next (below_draws _ w1 nq)
  replace B := thn B (below_draws _ w1 nq)
  clear t0 t1 t2 t3 tl u0 u1 u2 u3 ul U
  generalize w1.drewN nq = v1 at *
  obtain ⟨t0, t1, t2, t3, tl⟩ := id T
  generalize min x y = m1 at *
  generalize max x y = m2 at *
  go_wp2_with fail
  clear t0 t1 t2 t3 tl
  refine (along_any _ _ _ _ _).mono ?_
  rintro e w2 ⟨rfl, hb⟩
  rw [HE.out]
  replace B := alc (thn B hb) (.cells #[.int .i64 c, .int .i64 d] 23)
  replace T := (T.next hb).alc (.cells #[.int .i64 c, .int .i64 d] 23)
  have Q := c2_new w2 (.int .i64 c) (.int .i64 d) 23
  clear hb
  obtain ⟨t0, t1, t2, t3, tl⟩ := id T
  go_wp2_with fail
  clear t0 t1 t2 t3 tl
  generalize w2.alloc (.cells #[.int .i64 c, .int .i64 d] 23) = v2 at *
  generalize w2.heap.size = bq at *
  refine (along_any _ _ _ _ _).mono ?_
  rintro e w3 ⟨rfl, hb⟩
  rw [HF.out]
  replace B := alc (thn B hb) (.cells #[.int .i64 0, .int .i64 0] 23)
  replace T := (T.next hb).alc (.cells #[.int .i64 0, .int .i64 0] 23)
  replace Q := (Q.next hb).alc (.cells #[.int .i64 0, .int .i64 0] 23)
  have R := c2_new w3 (.int .i64 0) (.int .i64 0) 23
  clear hb
  go_wp2
  go_ret
  exact ⟨rfl, B⟩
set_option maxHeartbeats 4000000 in
theorem reaches_e (a b t x y c d e f : Int) (w : World) (he : alv a b t (min x y) = (c, d, 0)) (hf : alv a b t (max x y) = (e, f, 0)) (hd1 : dstv a b c d = (dv a b c d, 0)) (hd2 : dstv c d e f = (dv c d e f, 0)) (hk : -6 ≤ dv a b c d - min x y ∧ dv a b c d - min x y ≤ 6 ∧ -10 ≤ dv c d e f - (max x y - min x y) ∧ dv c d e f - (max x y - min x y) ≤ 10 ∧ 0 ≤ min x y ∧ min x y ≤ max x y ∧ max x y ≤ 64800000 ∧ 0 ≤ dv c d e f) :
    Calls Try.prog 9 #[posV a b, .int .i64 t, .agg #[.int .i64 x, .int .i64 y]] w fun e w' => e = .returned (.bool true) ∧ Below w.heap.size w w' := by
  have HE := Lib.hid he
  have HF := Lib.hid hf
  clear he hf
  go_enter Try.func9, Try.ntmps9
  go_wp2_with fail
  refine (awake_any _).mono ?_
  rintro e w1 ⟨rfl, hb⟩
  have B := thn (below_alloc2 w _ _) hb
  have T := ((c2_new w (.int .i64 a) (.int .i64 b) 23).alc _).next hb
  have U := (c2_new _ (.int .i64 x) (.int .i64 y) 39).next hb
  simp only [World.alloc, Array.size_push] at U
  clear hb
  obtain ⟨t0, t1, t2, t3, tl⟩ := id T
  obtain ⟨u0, u1, u2, u3, ul⟩ := id U
  go_wp2_with fail
  go_quiet (fail)
  replace T := T.next (below_draws _ w1 nq)
  replace B := thn B (below_draws _ w1 nq)
  clear t0 t1 t2 t3 tl u0 u1 u2 u3 ul U
  generalize w1.drewN nq = v1 at *
  obtain ⟨t0, t1, t2, t3, tl⟩ := id T
  generalize min x y = m1 at *
  generalize max x y = m2 at *
  go_wp2_with fail
  clear t0 t1 t2 t3 tl
  refine (along_any _ _ _ _ _).mono ?_
  rintro e w2 ⟨rfl, hb⟩
  rw [HE.out]
  replace B := alc (thn B hb) (.cells #[.int .i64 c, .int .i64 d] 23)
  replace T := (T.next hb).alc (.cells #[.int .i64 c, .int .i64 d] 23)
  have Q := c2_new w2 (.int .i64 c) (.int .i64 d) 23
  clear hb
  obtain ⟨t0, t1, t2, t3, tl⟩ := id T
  go_wp2_with fail
  clear t0 t1 t2 t3 tl
  generalize w2.alloc (.cells #[.int .i64 c, .int .i64 d] 23) = v2 at *
  generalize w2.heap.size = bq at *
  refine (along_any _ _ _ _ _).mono ?_
  rintro e w3 ⟨rfl, hb⟩
  rw [HF.out]
  replace B := alc (thn B hb) (.cells #[.int .i64 e, .int .i64 f] 23)
  replace T := (T.next hb).alc (.cells #[.int .i64 e, .int .i64 f] 23)
  replace Q := (Q.next hb).alc (.cells #[.int .i64 e, .int .i64 f] 23)
  have R := c2_new w3 (.int .i64 e) (.int .i64 f) 23
  clear hb
  have HD1 := Lib.hid hd1
  have HD2 := Lib.hid hd2
  clear hd1 hd2
  obtain ⟨t0, t1, t2, t3, tl⟩ := id T
  obtain ⟨q0, q1, q2, q3, ql⟩ := id Q
  go_wp2_with fail
  clear t0 t1 t2 t3 tl q0 q1 q2 q3 ql T
  generalize w3.alloc (.cells #[.int .i64 e, .int .i64 f] 23) = v3 at *
  generalize w3.heap.size = br at *
  refine (dist_any _ _ _ _ _).mono ?_
  rintro e w4 ⟨rfl, hb⟩
  rw [HD1.out]
  replace B := thn B hb
  replace Q := Q.next hb
  replace R := R.next hb
  clear hb
  generalize dv a b c d = D1 at *
  obtain ⟨q0, q1, q2, q3, ql⟩ := id Q
  obtain ⟨r0, r1', r2', r3', rl⟩ := id R
  go_wp2_with fail
  clear q0 q1 q2 q3 ql r0 r1' r2' r3' rl Q R
  refine (dist_any _ _ _ _ _).mono ?_
  rintro e w5 ⟨rfl, hb⟩
  rw [HD2.out]
  replace B := thn B hb
  clear hb
  generalize dv c d e f = D2 at *
  obtain ⟨k1, k2, k3, k4, k5, k6, k7, k8⟩ := hk
  have k9 : m2 - m1 - D2 ≤ 10 := by omega
  have k10 : m1 - D1 ≤ 6 := by omega
  go_wp2
  go_ret
  exact ⟨rfl, B⟩
theorem alv_out {a b t s : Int} (hv : vd a b = true) (h : s < 0 ∨ s > 64800000) : alv a b t s = (0, 0, 2) := by
  unfold alv; rw [if_pos hv, if_pos h]
theorem sphereReaches_walk (a b : Int) (_ : -9223372036854775808 ≤ a ∧ a ≤ 9223372036854775807) (_ : -9223372036854775808 ≤ b ∧ b ≤ 9223372036854775807) (t : Int) (_ : -9223372036854775808 ≤ t ∧ t ≤ 9223372036854775807) (x y : Int) (_ : -9223372036854775808 ≤ x ∧ x ≤ 9223372036854775807) (_ : -9223372036854775808 ≤ y ∧ y ≤ 9223372036854775807) (w : World) :
    Calls Try.prog 9 #[posV a b, .int .i64 t, .agg #[.int .i64 x, .int .i64 y]] w fun e w' => e = .returned (.bool true) ∧ Below w.heap.size w w' := by
  cases hv : vd a b
  · have z : ∀ s, alv a b t s = (0, 0, 1) := fun s => by unfold alv; rw [if_neg (by rw [hv]; decide)]
    exact reaches_a a b t x y w (z _) (z _)
  have hm : min x y ≤ max x y := by omega
  by_cases h1 : min x y < 0 ∨ min x y > 64800000
  · by_cases h2 : max x y < 0 ∨ max x y > 64800000
    · exact reaches_b a b t x y w (alv_out hv h1) (alv_out hv h2)
    · obtain ⟨e, f, p2, _, _⟩ := along_plain a b t (max x y) hv (by omega)
      exact reaches_c a b t x y e f w (alv_out hv h1) p2
  · by_cases h2 : max x y < 0 ∨ max x y > 64800000
    · obtain ⟨c, d, p1, _, _⟩ := along_plain a b t (min x y) hv (by omega)
      exact reaches_d a b t x y c d w p1 (alv_out hv h2)
    · obtain ⟨c, d, e, f, p1, p2, d1, d2, k1, k2, k3, k4⟩ := reaches_plain a b t (min x y) (max x y) hv (by omega) hm (by omega)
      exact reaches_e a b t x y c d e f w p1 p2 d1 d2 ⟨k1.1, k1.2, k2.1, k2.2, by omega, hm, by omega, k4.1⟩
end Go.Proofs.Ytgcmmfclnialfaa
