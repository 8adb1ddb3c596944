/- The law of chapter 9 on tracks: the walk. -/
import Derived.Test.YtgcmmfclnialfaaLaw09f
namespace Go.Proofs.Ytgcmmfclnialfaa
open Go.RowKit Go.Joins Fdk
set_option linter.unusedVariables false
set_option maxHeartbeats 4000000 in
theorem tracks_a (a b t s : Int) (w : World) (ha : alv a b t s = (0, 0, 1)) :
    Calls Try.prog 13 #[posV a b, .int .i64 t, .int .i64 s] w fun e w' => e = .returned (.bool true) ∧ Below w.heap.size w w' := by
  have HA := Lib.hid ha
  clear ha
  go_enter Try.func13, Try.ntmps13
  go_wp2_with fail
  refine (awake_any _).mono ?_
  rintro e w1 ⟨rfl, hb⟩
  have B := thn (below_alloc1 w _) hb
  have T := (c2_new w (.int .i64 a) (.int .i64 b) 23).next hb
  clear hb
  obtain ⟨t0, t1, t2, t3, tl⟩ := id T
  go_wp2_with fail
  clear t0 t1 t2 t3 tl
  refine (along_any _ _ _ _ _).mono ?_
  rintro e w2 ⟨rfl, hb⟩
  rw [HA.out]
  replace B := alc (thn B hb) (.cells #[.int .i64 0, .int .i64 0] 23)
  replace T := (T.next hb).alc (.cells #[.int .i64 0, .int .i64 0] 23)
  have Q := c2_new w2 (.int .i64 0) (.int .i64 0) 23
  clear hb
  go_wp2
  go_ret
  exact ⟨rfl, B⟩
set_option maxHeartbeats 4000000 in
theorem tracks_b (a b t s : Int) (w : World) (ha : alv a b t s = (0, 0, 2)) :
    Calls Try.prog 13 #[posV a b, .int .i64 t, .int .i64 s] w fun e w' => e = .returned (.bool true) ∧ Below w.heap.size w w' := by
  have HA := Lib.hid ha
  clear ha
  go_enter Try.func13, Try.ntmps13
  go_wp2_with fail
  refine (awake_any _).mono ?_
  rintro e w1 ⟨rfl, hb⟩
  have B := thn (below_alloc1 w _) hb
  have T := (c2_new w (.int .i64 a) (.int .i64 b) 23).next hb
  clear hb
  obtain ⟨t0, t1, t2, t3, tl⟩ := id T
  go_wp2_with fail
  clear t0 t1 t2 t3 tl
  refine (along_any _ _ _ _ _).mono ?_
  rintro e w2 ⟨rfl, hb⟩
  rw [HA.out]
  replace B := alc (thn B hb) (.cells #[.int .i64 0, .int .i64 0] 23)
  replace T := (T.next hb).alc (.cells #[.int .i64 0, .int .i64 0] 23)
  have Q := c2_new w2 (.int .i64 0) (.int .i64 0) 23
  clear hb
  go_wp2
  go_ret
  exact ⟨rfl, B⟩
set_option maxHeartbeats 4000000 in
theorem tracks_c (a b t s c d : Int) (w : World) (ha : alv a b t s = (c, d, 0)) (hs : s > 64799400) :
    Calls Try.prog 13 #[posV a b, .int .i64 t, .int .i64 s] w fun e w' => e = .returned (.bool true) ∧ Below w.heap.size w w' := by
  have HA := Lib.hid ha
  clear ha
  go_enter Try.func13, Try.ntmps13
  go_wp2_with fail
  refine (awake_any _).mono ?_
  rintro e w1 ⟨rfl, hb⟩
  have B := thn (below_alloc1 w _) hb
  have T := (c2_new w (.int .i64 a) (.int .i64 b) 23).next hb
  clear hb
  obtain ⟨t0, t1, t2, t3, tl⟩ := id T
  go_wp2_with fail
  clear t0 t1 t2 t3 tl
  refine (along_any _ _ _ _ _).mono ?_
  rintro e w2 ⟨rfl, hb⟩
  rw [HA.out]
  replace B := alc (thn B hb) (.cells #[.int .i64 c, .int .i64 d] 23)
  replace T := (T.next hb).alc (.cells #[.int .i64 c, .int .i64 d] 23)
  have Q := c2_new w2 (.int .i64 c) (.int .i64 d) 23
  clear hb
  go_wp2
  go_ret
  exact ⟨rfl, B⟩
set_option maxHeartbeats 4000000 in
theorem tracks_d (a b t s c d o l : Int) (w : World) (ha : alv a b t s = (c, d, 0)) (hs : ¬ s > 64799400) (s0 : 0 ≤ s) (hc : crv a b t c d = (o, l, 0)) (h1 : -4 ≤ o) (h2 : o ≤ 4) (h3 : -6 ≤ l - s) (h4 : l - s ≤ 6) :
    Calls Try.prog 13 #[posV a b, .int .i64 t, .int .i64 s] w fun e w' => e = .returned (.bool true) ∧ Below w.heap.size w w' := by
  have HA := Lib.hid ha
  clear ha
  have HC := Lib.hid hc
  clear hc
  go_enter Try.func13, Try.ntmps13
  go_wp2_with fail
  refine (awake_any _).mono ?_
  rintro e w1 ⟨rfl, hb⟩
  have B := thn (below_alloc1 w _) hb
  have T := (c2_new w (.int .i64 a) (.int .i64 b) 23).next hb
  clear hb
  obtain ⟨t0, t1, t2, t3, tl⟩ := id T
  go_wp2_with fail
  clear t0 t1 t2 t3 tl
  refine (along_any _ _ _ _ _).mono ?_
  rintro e w2 ⟨rfl, hb⟩
  rw [HA.out]
  replace B := alc (thn B hb) (.cells #[.int .i64 c, .int .i64 d] 23)
  replace T := (T.next hb).alc (.cells #[.int .i64 c, .int .i64 d] 23)
  have Q := c2_new w2 (.int .i64 c) (.int .i64 d) 23
  clear hb
  obtain ⟨t0, t1, t2, t3, tl⟩ := id T
  obtain ⟨q0, q1, q2, q3, ql⟩ := id Q
  go_wp2_with fail
  clear t0 t1 t2 t3 tl q0 q1 q2 q3 ql T Q
  generalize w2.alloc (.cells #[.int .i64 c, .int .i64 d] 23) = v2 at *
  refine (cross_any _ _ _ _ _ _).mono ?_
  rintro e w3 ⟨rfl, hb⟩
  rw [HC.out]
  replace B := thn B hb
  clear hb
  have h5 : s - l ≤ 6 := by omega
  have h6 : o - 0 ≤ 4 := by omega
  have h7 : 0 - o ≤ 4 := by omega
  have h8 : -o ≤ 4 := by omega
  go_wp2
  go_ret
  exact ⟨rfl, B⟩
theorem sphereTracks_walk (a b : Int) (_ : -9223372036854775808 ≤ a ∧ a ≤ 9223372036854775807) (_ : -9223372036854775808 ≤ b ∧ b ≤ 9223372036854775807) (t : Int) (_ : -9223372036854775808 ≤ t ∧ t ≤ 9223372036854775807) (s : Int) (_ : -9223372036854775808 ≤ s ∧ s ≤ 9223372036854775807) (w : World) :
    Calls Try.prog 13 #[posV a b, .int .i64 t, .int .i64 s] w fun e w' => e = .returned (.bool true) ∧ Below w.heap.size w w' := by
  cases hv : vd a b
  · exact tracks_a a b t s w (by unfold alv; rw [if_neg (by rw [hv]; decide)])
  by_cases h : s < 0 ∨ s > 64800000
  · exact tracks_b a b t s w (by unfold alv; rw [if_pos hv, if_pos h])
  by_cases h2 : s > 64799400
  · obtain ⟨c, d, p, _, _⟩ := along_plain a b t s hv (by omega)
    exact tracks_c a b t s c d w p h2
  · obtain ⟨c, d, p, o, l, hc, h3, h4⟩ := tracks_plain a b t s hv (by omega)
    exact tracks_d a b t s c d o l w p h2 (by omega) hc h3.1 h3.2 h4.1 h4.2
end Go.Proofs.Ytgcmmfclnialfaa
