/- The law of chapter 9 on courses and distances: the walk. -/
import Derived.Test.YtgcmmfclnialfaaLaw09d
namespace Go.Proofs.Ytgcmmfclnialfaa
open Go.RowKit Go.Joins Fdk
set_option linter.unusedVariables false
theorem sn_k9 : sn 9 = 469 := by decide +kernel
theorem returns_plain {a b c d : Int} (hv : vd a b = true) (hw : vd c d = true) (h1 : ¬ dv a b c d < 600) (h2 : ¬ dv a b c d > 64799400) : ∃ e f, alv a b (a2 (lx b c d) (ly a b c d)).1 (dv a b c d) = (e, f, 0) ∧ dstv c d e f = (dv c d e f, 0) ∧ dv c d e f ≤ 8 := by
  have hc := crs_err a b c d h1 h2
  have ht := a2_eq hc
  obtain ⟨hδ, l, l0, l1, n1⟩ := returns_near hv hw hc
  have hb := at2_b (lx b c d) (ly a b c d)
  obtain ⟨e, f, p, ve, n2⟩ := along_plain a b (at2 (lx b c d) (ly a b c d)) (dv a b c d) hv hδ
  rw [show at2 (lx b c d) (ly a b c d) % 129600000 = at2 (lx b c d) (ly a b c d) by omega] at n2
  have k9 : ((sn (8 + 1) : Int) : Rat) = 469 := by rw [show (8 : Int) + 1 = 9 from rfl, sn_k9]; rfl
  have z := dist_zero c d e f 8 hw ve (by omega) (by omega) _ _ _ l 230 (1177/10) (x_unit a b (at2 (lx b c d) (ly a b c d)) (dv a b c d)) l0 l1 n1 n2 (by grind) (by grind) (by rw [k9]; grind)
  rw [ht]
  exact ⟨e, f, p, z.1, z.2.2⟩
set_option maxHeartbeats 4000000 in
theorem returns_a (a b c d : Int) (w : World) (hd : dstv a b c d = (0, 1)) (hc : crs a b c d = (0, 1)) :
    Calls Try.prog 10 #[posV a b, posV c d] w fun e w' => e = .returned (.bool true) ∧ Below w.heap.size w w' := by
  have HD := Lib.hid hd
  have HC := Lib.hid hc
  clear hd hc
  go_enter Try.func10, Try.ntmps10
  go_wp2_with fail
  refine (awake_any _).mono ?_
  rintro e w1 ⟨rfl, hb⟩
  have B := thn (below_alloc2 w _ _) hb
  have T := ((c2_new w (.int .i64 a) (.int .i64 b) 23).alc _).next hb
  have U := (c2_new _ (.int .i64 c) (.int .i64 d) 23).next hb
  simp only [World.alloc, Array.size_push] at U
  clear hb
  obtain ⟨t0, t1, t2, t3, tl⟩ := id T
  obtain ⟨u0, u1, u2, u3, ul⟩ := id U
  go_wp2_with fail
  clear t0 t1 t2 t3 tl u0 u1 u2 u3 ul
  refine (dist_any _ _ _ _ _).mono ?_
  rintro e w2 ⟨rfl, hb⟩
  rw [HD.out]
  replace B := thn B hb
  replace T := T.next hb
  replace U := U.next hb
  clear hb
  obtain ⟨t0, t1, t2, t3, tl⟩ := id T
  obtain ⟨u0, u1, u2, u3, ul⟩ := id U
  go_wp2_with fail
  clear t0 t1 t2 t3 tl u0 u1 u2 u3 ul
  refine (course_any _ _ _ _ _).mono ?_
  rintro e w3 ⟨rfl, hb⟩
  rw [HC.out]
  replace B := thn B hb
  replace T := T.next hb
  replace U := U.next hb
  clear hb
  go_wp2
  go_ret
  exact ⟨rfl, B⟩
set_option maxHeartbeats 4000000 in
theorem returns_b (a b c d v : Int) (w : World) (hd : dstv a b c d = (v, 0)) (hc : crs a b c d = (0, 10)) (h1 : v < 600) :
    Calls Try.prog 10 #[posV a b, posV c d] w fun e w' => e = .returned (.bool true) ∧ Below w.heap.size w w' := by
  have HD := Lib.hid hd
  have HC := Lib.hid hc
  clear hd hc
  go_enter Try.func10, Try.ntmps10
  go_wp2_with fail
  refine (awake_any _).mono ?_
  rintro e w1 ⟨rfl, hb⟩
  have B := thn (below_alloc2 w _ _) hb
  have T := ((c2_new w (.int .i64 a) (.int .i64 b) 23).alc _).next hb
  have U := (c2_new _ (.int .i64 c) (.int .i64 d) 23).next hb
  simp only [World.alloc, Array.size_push] at U
  clear hb
  obtain ⟨t0, t1, t2, t3, tl⟩ := id T
  obtain ⟨u0, u1, u2, u3, ul⟩ := id U
  go_wp2_with fail
  clear t0 t1 t2 t3 tl u0 u1 u2 u3 ul
  refine (dist_any _ _ _ _ _).mono ?_
  rintro e w2 ⟨rfl, hb⟩
  rw [HD.out]
  replace B := thn B hb
  replace T := T.next hb
  replace U := U.next hb
  clear hb
  obtain ⟨t0, t1, t2, t3, tl⟩ := id T
  obtain ⟨u0, u1, u2, u3, ul⟩ := id U
  go_wp2_with fail
  clear t0 t1 t2 t3 tl u0 u1 u2 u3 ul
  refine (course_any _ _ _ _ _).mono ?_
  rintro e w3 ⟨rfl, hb⟩
  rw [HC.out]
  replace B := thn B hb
  replace T := T.next hb
  replace U := U.next hb
  clear hb
  go_wp2
  go_ret
  exact ⟨rfl, B⟩
set_option maxHeartbeats 4000000 in
theorem returns_c (a b c d v : Int) (w : World) (hd : dstv a b c d = (v, 0)) (hc : crs a b c d = (0, 10)) (h0 : ¬ v < 600) (h1 : v > 64799400) :
    Calls Try.prog 10 #[posV a b, posV c d] w fun e w' => e = .returned (.bool true) ∧ Below w.heap.size w w' := by
  have HD := Lib.hid hd
  have HC := Lib.hid hc
  clear hd hc
  go_enter Try.func10, Try.ntmps10
  go_wp2_with fail
  refine (awake_any _).mono ?_
  rintro e w1 ⟨rfl, hb⟩
  have B := thn (below_alloc2 w _ _) hb
  have T := ((c2_new w (.int .i64 a) (.int .i64 b) 23).alc _).next hb
  have U := (c2_new _ (.int .i64 c) (.int .i64 d) 23).next hb
  simp only [World.alloc, Array.size_push] at U
  clear hb
  obtain ⟨t0, t1, t2, t3, tl⟩ := id T
  obtain ⟨u0, u1, u2, u3, ul⟩ := id U
  go_wp2_with fail
  clear t0 t1 t2 t3 tl u0 u1 u2 u3 ul
  refine (dist_any _ _ _ _ _).mono ?_
  rintro e w2 ⟨rfl, hb⟩
  rw [HD.out]
  replace B := thn B hb
  replace T := T.next hb
  replace U := U.next hb
  clear hb
  obtain ⟨t0, t1, t2, t3, tl⟩ := id T
  obtain ⟨u0, u1, u2, u3, ul⟩ := id U
  go_wp2_with fail
  clear t0 t1 t2 t3 tl u0 u1 u2 u3 ul
  refine (course_any _ _ _ _ _).mono ?_
  rintro e w3 ⟨rfl, hb⟩
  rw [HC.out]
  replace B := thn B hb
  replace T := T.next hb
  replace U := U.next hb
  clear hb
  go_wp2
  go_ret
  exact ⟨rfl, B⟩
set_option maxHeartbeats 4000000 in
theorem returns_d (a b c d v t e1 f1 x : Int) (w : World) (hd : dstv a b c d = (v, 0)) (hc : crs a b c d = (t, 0)) (ha : alv a b t v = (e1, f1, 0)) (hz : dstv c d e1 f1 = (x, 0)) (hx : x ≤ 8) :
    Calls Try.prog 10 #[posV a b, posV c d] w fun e w' => e = .returned (.bool true) ∧ Below w.heap.size w w' := by
  have HD := Lib.hid hd
  have HC := Lib.hid hc
  clear hd hc
  have HA := Lib.hid ha
  have HZ := Lib.hid hz
  clear ha hz
  go_enter Try.func10, Try.ntmps10
  go_wp2_with fail
  refine (awake_any _).mono ?_
  rintro e w1 ⟨rfl, hb⟩
  have B := thn (below_alloc2 w _ _) hb
  have T := ((c2_new w (.int .i64 a) (.int .i64 b) 23).alc _).next hb
  have U := (c2_new _ (.int .i64 c) (.int .i64 d) 23).next hb
  simp only [World.alloc, Array.size_push] at U
  clear hb
  obtain ⟨t0, t1, t2, t3, tl⟩ := id T
  obtain ⟨u0, u1, u2, u3, ul⟩ := id U
  go_wp2_with fail
  clear t0 t1 t2 t3 tl u0 u1 u2 u3 ul
  refine (dist_any _ _ _ _ _).mono ?_
  rintro e w2 ⟨rfl, hb⟩
  rw [HD.out]
  replace B := thn B hb
  replace T := T.next hb
  replace U := U.next hb
  clear hb
  obtain ⟨t0, t1, t2, t3, tl⟩ := id T
  obtain ⟨u0, u1, u2, u3, ul⟩ := id U
  go_wp2_with fail
  clear t0 t1 t2 t3 tl u0 u1 u2 u3 ul
  refine (course_any _ _ _ _ _).mono ?_
  rintro e w3 ⟨rfl, hb⟩
  rw [HC.out]
  replace B := thn B hb
  replace T := T.next hb
  replace U := U.next hb
  clear hb
  obtain ⟨t0, t1, t2, t3, tl⟩ := id T
  go_wp2_with fail
  clear t0 t1 t2 t3 tl T
  refine (along_any _ _ _ _ _).mono ?_
  rintro e w4 ⟨rfl, hb⟩
  rw [HA.out]
  replace B := alc (thn B hb) (.cells #[.int .i64 e1, .int .i64 f1] 23)
  replace U := (U.next hb).alc (.cells #[.int .i64 e1, .int .i64 f1] 23)
  have R := c2_new w4 (.int .i64 e1) (.int .i64 f1) 23
  clear hb
  obtain ⟨u0, u1, u2, u3, ul⟩ := id U
  obtain ⟨r0, r1, r2, r3, rl⟩ := id R
  go_wp2_with fail
  clear u0 u1 u2 u3 ul r0 r1 r2 r3 rl U R
  generalize w4.alloc (.cells #[.int .i64 e1, .int .i64 f1] 23) = v4 at *
  refine (dist_any _ _ _ _ _).mono ?_
  rintro e w5 ⟨rfl, hb⟩
  rw [HZ.out]
  replace B := thn B hb
  clear hb
  go_wp2
  go_ret
  exact ⟨rfl, B⟩
theorem sphereReturns_walk (a b : Int) (_ : -9223372036854775808 ≤ a ∧ a ≤ 9223372036854775807) (_ : -9223372036854775808 ≤ b ∧ b ≤ 9223372036854775807) (c d : Int) (_ : -9223372036854775808 ≤ c ∧ c ≤ 9223372036854775807) (_ : -9223372036854775808 ≤ d ∧ d ≤ 9223372036854775807) (w : World) :
    Calls Try.prog 10 #[posV a b, posV c d] w fun e w' => e = .returned (.bool true) ∧ Below w.heap.size w w' := by
  rcases crs_cases a b c d with ⟨hd, hh⟩ | ⟨v, hd, ⟨h1, hh⟩ | ⟨h1, h2, hh⟩ | ⟨h1, h2, hh⟩⟩
  · exact returns_a a b c d w hd hh.out
  · exact returns_b a b c d v w hd hh.out h1
  · exact returns_c a b c d v w hd hh.out h1 h2
  · have hv : v = dv a b c d ∧ vd a b = true ∧ vd c d = true := by
      have h := hd
      unfold dstv at h
      split at h
      · next hv => exact ⟨(Prod.mk.inj h).1.symm, by simpa using hv⟩
      · exact absurd (Prod.mk.inj h).2 (by omega)
    obtain ⟨rfl, hv1, hv2⟩ := hv
    obtain ⟨e, f, p, z, hx⟩ := returns_plain hv1 hv2 h1 h2
    exact returns_d a b c d _ _ e f _ w hd hh.out p z hx
end Go.Proofs.Ytgcmmfclnialfaa
