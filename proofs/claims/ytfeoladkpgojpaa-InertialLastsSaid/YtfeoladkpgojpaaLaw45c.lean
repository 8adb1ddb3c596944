/- The laws of chapter 45: coasted for as long as the reach says a box is within the limit, one tick later it is not. -/
import Derived.Test.YtfeoladkpgojpaaLaw45b
namespace Go.Proofs.Ytfeoladkpgojpaa
open Go.RowKit Go.Joins Fdk
set_option linter.unusedVariables false

theorem lasts_cases (x y r s d l : Int) : (∃ k, (k = 1 ∨ k = 2 ∨ k = 6) ∧ Hid (rch x y r s d l = (0, k))) ∨
    (∃ n, 0 ≤ n ∧ Hid (rch x y r s d l = (n, 0)) ∧ (n ≥ 144000 ∨ (n < 144000 ∧ ∃ R S, Hid (coast x y r s 0 0 d n = (x, y, R, S, 0)) ∧ wit x y R S l = true ∧
      (Hid (coast x y r s 0 0 d (n + 1) = (0, 0, 0, 0, 2)) ∨ ∃ R' S', Hid (coast x y r s 0 0 d (n + 1) = (x, y, R', S', 0)) ∧ wit x y R' S' l = false)))) := by
  cases h1 : bv x y r s
  · exact .inl ⟨1, .inl rfl, Lib.hid (by simp [rch, h1])⟩
  cases h2 : (inb d 1 1000 && inb l 0 2000000)
  · exact .inl ⟨2, .inr (.inl rfl), Lib.hid (by unfold rch; rw [if_pos h1, if_neg (by simp [h2])])⟩
  cases h3 : wit x y r s l
  · exact .inl ⟨6, .inr (.inr rfl), Lib.hid (by unfold rch; rw [if_pos h1, if_pos h2, if_neg (by simp [h3])])⟩
  · have hb := bv_of h1
    have h2' := h2
    simp only [Bool.and_eq_true] at h2'
    have hd := inb_of h2'.1
    have hl := inb_of h2'.2
    have hw := h3
    simp only [wit, h1, Bool.true_and, Bool.and_eq_true, decide_eq_true_eq] at hw
    have k1 := Int.mul_ediv_add_emod (l - max r s) d
    have k2 := Int.emod_nonneg (l - max r s) (by omega : d ≠ 0)
    have k3 := Int.emod_lt_of_pos (l - max r s) (by omega : 0 < d)
    have k4 : 0 ≤ (l - max r s) / d := Int.ediv_nonneg (by omega) (by omega)
    refine .inr ⟨(l - max r s) / d, k4, Lib.hid (by unfold rch; rw [if_pos h1, if_pos h2, if_pos h3]), ?_⟩
    generalize (l - max r s) / d = n at *
    generalize (l - max r s) % d = q at *
    by_cases hn : n ≥ 144000
    · exact .inl hn
    · have e0 : d * (n + 1) = d * n + d := by rw [Int.mul_add, Int.mul_one]
      have p0 : 0 ≤ d * n := Int.mul_nonneg (by omega) k4
      generalize hP : d * n = P at *
      have hv : bv x y (r + P) (s + P) = true := by
        simp only [bv, pv, inb_t hb.1, inb_t hb.2.1, inb_t (show 0 ≤ r + P ∧ r + P ≤ 2000000 by omega), inb_t (show 0 ≤ s + P ∧ s + P ≤ 2000000 by omega)]; rfl
      refine .inr ⟨by omega, r + P, s + P, Lib.hid ?_, wit_t hv (by omega) (by omega), ?_⟩
      · unfold coast
        rw [if_pos h1, if_pos (okv_t ⟨by omega, by omega, by omega, by omega, by omega⟩), Int.zero_mul, Int.add_zero, Int.add_zero, hP, if_pos hv]
      · rcases coast_end x y r s 0 0 d (n + 1) with ⟨k, _, he, hk⟩ | ⟨_, _, g3, he⟩
        · obtain rfl := hk h1
          exact .inl (Lib.hid he)
        · rw [Int.zero_mul, Int.add_zero, Int.add_zero, e0] at he
          refine .inr ⟨_, _, Lib.hid he, ?_⟩
          by_cases hr : r ≤ s
          · exact wit_n2 (by omega)
          · exact wit_n1 (by omega)
set_option maxHeartbeats 1600000 in
theorem lasts_a (x y r s : Int) (d : Int) (hd : -9223372036854775808 ≤ d ∧ d ≤ 9223372036854775807) (l : Int) (hl : -9223372036854775808 ≤ l ∧ l ≤ 9223372036854775807) (w : World) (HR : Hid (rch x y r s d l = (0, 1))) :
    Calls Try.prog 9 #[boxV x y r s, .int .i64 d, .int .i64 l] w fun e w' => e = .returned (.bool true) ∧ Below w.heap.size w w' := by
  go_enter Try.func9, Try.ntmps9
  go_wp2_with fail
  refine (awake_any _).mono ?_
  rintro e w1 ⟨rfl, hb1⟩
  have B := thn (below_alloc1 w _) hb1
  have T := (cell4_new w _ _ _ _ _).next hb1
  clear hb1
  obtain ⟨ca0, cb0, cc0, cd0, fa0, fb0, fc0, fd0, lz0⟩ := id T
  go_wp2_with fail
  refine (ireach_any _ _ _ _ _ _ _).mono ?_
  rintro e w2 ⟨rfl, hb2⟩
  rw [HR.out]
  clear ca0 cb0 cc0 cd0 fa0 fb0 fc0 fd0 lz0
  replace B := thn B hb2
  replace T := T.next hb2
  clear hb2
  obtain ⟨ca0, cb0, cc0, cd0, fa0, fb0, fc0, fd0, lz0⟩ := id T
  go_wp2
  go_ret
  exact ⟨rfl, B⟩
set_option maxHeartbeats 1600000 in
theorem lasts_b (x y r s : Int) (d : Int) (hd : -9223372036854775808 ≤ d ∧ d ≤ 9223372036854775807) (l : Int) (hl : -9223372036854775808 ≤ l ∧ l ≤ 9223372036854775807) (w : World) (HR : Hid (rch x y r s d l = (0, 2))) :
    Calls Try.prog 9 #[boxV x y r s, .int .i64 d, .int .i64 l] w fun e w' => e = .returned (.bool true) ∧ Below w.heap.size w w' := by
  go_enter Try.func9, Try.ntmps9
  go_wp2_with fail
  refine (awake_any _).mono ?_
  rintro e w1 ⟨rfl, hb1⟩
  have B := thn (below_alloc1 w _) hb1
  have T := (cell4_new w _ _ _ _ _).next hb1
  clear hb1
  obtain ⟨ca0, cb0, cc0, cd0, fa0, fb0, fc0, fd0, lz0⟩ := id T
  go_wp2_with fail
  refine (ireach_any _ _ _ _ _ _ _).mono ?_
  rintro e w2 ⟨rfl, hb2⟩
  rw [HR.out]
  clear ca0 cb0 cc0 cd0 fa0 fb0 fc0 fd0 lz0
  replace B := thn B hb2
  replace T := T.next hb2
  clear hb2
  obtain ⟨ca0, cb0, cc0, cd0, fa0, fb0, fc0, fd0, lz0⟩ := id T
  go_wp2
  go_ret
  exact ⟨rfl, B⟩
set_option maxHeartbeats 1600000 in
theorem lasts_c (x y r s : Int) (d : Int) (hd : -9223372036854775808 ≤ d ∧ d ≤ 9223372036854775807) (l : Int) (hl : -9223372036854775808 ≤ l ∧ l ≤ 9223372036854775807) (w : World) (HR : Hid (rch x y r s d l = (0, 6))) :
    Calls Try.prog 9 #[boxV x y r s, .int .i64 d, .int .i64 l] w fun e w' => e = .returned (.bool true) ∧ Below w.heap.size w w' := by
  go_enter Try.func9, Try.ntmps9
  go_wp2_with fail
  refine (awake_any _).mono ?_
  rintro e w1 ⟨rfl, hb1⟩
  have B := thn (below_alloc1 w _) hb1
  have T := (cell4_new w _ _ _ _ _).next hb1
  clear hb1
  obtain ⟨ca0, cb0, cc0, cd0, fa0, fb0, fc0, fd0, lz0⟩ := id T
  go_wp2_with fail
  refine (ireach_any _ _ _ _ _ _ _).mono ?_
  rintro e w2 ⟨rfl, hb2⟩
  rw [HR.out]
  clear ca0 cb0 cc0 cd0 fa0 fb0 fc0 fd0 lz0
  replace B := thn B hb2
  replace T := T.next hb2
  clear hb2
  obtain ⟨ca0, cb0, cc0, cd0, fa0, fb0, fc0, fd0, lz0⟩ := id T
  go_wp2
  go_ret
  exact ⟨rfl, B⟩
set_option maxHeartbeats 1600000 in
theorem lasts_d (x y r s : Int) (d : Int) (hd : -9223372036854775808 ≤ d ∧ d ≤ 9223372036854775807) (l : Int) (hl : -9223372036854775808 ≤ l ∧ l ≤ 9223372036854775807) (w : World) (n : Int) (h0 : 0 ≤ n) (HR : Hid (rch x y r s d l = (n, 0))) (hn : n ≥ 144000) :
    Calls Try.prog 9 #[boxV x y r s, .int .i64 d, .int .i64 l] w fun e w' => e = .returned (.bool true) ∧ Below w.heap.size w w' := by
  go_enter Try.func9, Try.ntmps9
  go_wp2_with fail
  refine (awake_any _).mono ?_
  rintro e w1 ⟨rfl, hb1⟩
  have B := thn (below_alloc1 w _) hb1
  have T := (cell4_new w _ _ _ _ _).next hb1
  clear hb1
  obtain ⟨ca0, cb0, cc0, cd0, fa0, fb0, fc0, fd0, lz0⟩ := id T
  go_wp2_with fail
  refine (ireach_any _ _ _ _ _ _ _).mono ?_
  rintro e w2 ⟨rfl, hb2⟩
  rw [HR.out]
  clear ca0 cb0 cc0 cd0 fa0 fb0 fc0 fd0 lz0
  replace B := thn B hb2
  replace T := T.next hb2
  clear hb2
  obtain ⟨ca0, cb0, cc0, cd0, fa0, fb0, fc0, fd0, lz0⟩ := id T
  go_wp2
  go_ret
  exact ⟨rfl, B⟩
set_option maxHeartbeats 1600000 in
theorem lasts_e (x y r s : Int) (d : Int) (hd : -9223372036854775808 ≤ d ∧ d ≤ 9223372036854775807) (l : Int) (hl : -9223372036854775808 ≤ l ∧ l ≤ 9223372036854775807) (w : World) (n : Int) (h0 : 0 ≤ n) (HR : Hid (rch x y r s d l = (n, 0))) (hn : n < 144000) (R S : Int) (HC : Hid (coast x y r s 0 0 d n = (x, y, R, S, 0))) (hw1 : wit x y R S l = true) (HD : Hid (coast x y r s 0 0 d (n + 1) = (0, 0, 0, 0, 2))) :
    Calls Try.prog 9 #[boxV x y r s, .int .i64 d, .int .i64 l] w fun e w' => e = .returned (.bool true) ∧ Below w.heap.size w w' := by
  go_enter Try.func9, Try.ntmps9
  go_wp2_with fail
  refine (awake_any _).mono ?_
  rintro e w1 ⟨rfl, hb1⟩
  have B := thn (below_alloc1 w _) hb1
  have T := (cell4_new w _ _ _ _ _).next hb1
  clear hb1
  obtain ⟨ca0, cb0, cc0, cd0, fa0, fb0, fc0, fd0, lz0⟩ := id T
  go_wp2_with fail
  refine (ireach_any _ _ _ _ _ _ _).mono ?_
  rintro e w2 ⟨rfl, hb2⟩
  rw [HR.out]
  clear ca0 cb0 cc0 cd0 fa0 fb0 fc0 fd0 lz0
  replace B := thn B hb2
  replace T := T.next hb2
  clear hb2
  obtain ⟨ca0, cb0, cc0, cd0, fa0, fb0, fc0, fd0, lz0⟩ := id T
  go_wp2_with fail
  refine (icoast_any _ _ _ _ _ _ _ _ _).mono ?_
  rintro e w3 ⟨rfl, hb3⟩
  rw [HC.out]
  clear ca0 cb0 cc0 cd0 fa0 fb0 fc0 fd0 lz0
  replace B := thn B hb3
  replace T := T.next hb3
  clear hb3
  obtain ⟨ca0, cb0, cc0, cd0, fa0, fb0, fc0, fd0, lz0⟩ := id T
  go_wp2_with fail
  refine (icoast_any _ _ _ _ _ _ _ _ _).mono ?_
  rintro e w4 ⟨rfl, hb4⟩
  rw [HD.out]
  clear ca0 cb0 cc0 cd0 fa0 fb0 fc0 fd0 lz0
  replace B := thn (alc B _) hb4
  replace T := (T.alc _).next hb4
  have V := (cell4_new w3 _ _ _ _ _).next hb4
  clear hb4
  obtain ⟨ca0, cb0, cc0, cd0, fa0, fb0, fc0, fd0, lz0⟩ := id T
  obtain ⟨ca2, cb2, cc2, cd2, fa2, fb2, fc2, fd2, lz2⟩ := id V
  go_wp2_with fail
  refine (iwithin_any _ _ _ _ _ _).mono ?_
  rintro e w5 ⟨rfl, hb5⟩
  rw [hw1]
  clear ca0 cb0 cc0 cd0 fa0 fb0 fc0 fd0 lz0 ca2 cb2 cc2 cd2 fa2 fb2 fc2 fd2 lz2
  replace B := thn (alc B _) hb5
  replace T := (T.alc _).next hb5
  replace V := (V.alc _).next hb5
  have X := (cell4_new w4 _ _ _ _ _).next hb5
  clear hb5
  obtain ⟨ca0, cb0, cc0, cd0, fa0, fb0, fc0, fd0, lz0⟩ := id T
  obtain ⟨ca2, cb2, cc2, cd2, fa2, fb2, fc2, fd2, lz2⟩ := id V
  obtain ⟨ca3, cb3, cc3, cd3, fa3, fb3, fc3, fd3, lz3⟩ := id X
  go_wp2
  go_ret
  exact ⟨rfl, B⟩
set_option maxHeartbeats 1600000 in
theorem lasts_f (x y r s : Int) (d : Int) (hd : -9223372036854775808 ≤ d ∧ d ≤ 9223372036854775807) (l : Int) (hl : -9223372036854775808 ≤ l ∧ l ≤ 9223372036854775807) (w : World) (n : Int) (h0 : 0 ≤ n) (HR : Hid (rch x y r s d l = (n, 0))) (hn : n < 144000) (R S : Int) (HC : Hid (coast x y r s 0 0 d n = (x, y, R, S, 0))) (hw1 : wit x y R S l = true) (R' S' : Int) (HD : Hid (coast x y r s 0 0 d (n + 1) = (x, y, R', S', 0))) (hw2 : wit x y R' S' l = false) :
    Calls Try.prog 9 #[boxV x y r s, .int .i64 d, .int .i64 l] w fun e w' => e = .returned (.bool true) ∧ Below w.heap.size w w' := by
  go_enter Try.func9, Try.ntmps9
  go_wp2_with fail
  refine (awake_any _).mono ?_
  rintro e w1 ⟨rfl, hb1⟩
  have B := thn (below_alloc1 w _) hb1
  have T := (cell4_new w _ _ _ _ _).next hb1
  clear hb1
  obtain ⟨ca0, cb0, cc0, cd0, fa0, fb0, fc0, fd0, lz0⟩ := id T
  go_wp2_with fail
  refine (ireach_any _ _ _ _ _ _ _).mono ?_
  rintro e w2 ⟨rfl, hb2⟩
  rw [HR.out]
  clear ca0 cb0 cc0 cd0 fa0 fb0 fc0 fd0 lz0
  replace B := thn B hb2
  replace T := T.next hb2
  clear hb2
  obtain ⟨ca0, cb0, cc0, cd0, fa0, fb0, fc0, fd0, lz0⟩ := id T
  go_wp2_with fail
  refine (icoast_any _ _ _ _ _ _ _ _ _).mono ?_
  rintro e w3 ⟨rfl, hb3⟩
  rw [HC.out]
  clear ca0 cb0 cc0 cd0 fa0 fb0 fc0 fd0 lz0
  replace B := thn B hb3
  replace T := T.next hb3
  clear hb3
  obtain ⟨ca0, cb0, cc0, cd0, fa0, fb0, fc0, fd0, lz0⟩ := id T
  go_wp2_with fail
  refine (icoast_any _ _ _ _ _ _ _ _ _).mono ?_
  rintro e w4 ⟨rfl, hb4⟩
  rw [HD.out]
  clear ca0 cb0 cc0 cd0 fa0 fb0 fc0 fd0 lz0
  replace B := thn (alc B _) hb4
  replace T := (T.alc _).next hb4
  have V := (cell4_new w3 _ _ _ _ _).next hb4
  clear hb4
  obtain ⟨ca0, cb0, cc0, cd0, fa0, fb0, fc0, fd0, lz0⟩ := id T
  obtain ⟨ca2, cb2, cc2, cd2, fa2, fb2, fc2, fd2, lz2⟩ := id V
  go_wp2_with fail
  refine (iwithin_any _ _ _ _ _ _).mono ?_
  rintro e w5 ⟨rfl, hb5⟩
  rw [hw1]
  clear ca0 cb0 cc0 cd0 fa0 fb0 fc0 fd0 lz0 ca2 cb2 cc2 cd2 fa2 fb2 fc2 fd2 lz2
  replace B := thn (alc B _) hb5
  replace T := (T.alc _).next hb5
  replace V := (V.alc _).next hb5
  have X := (cell4_new w4 _ _ _ _ _).next hb5
  clear hb5
  obtain ⟨ca0, cb0, cc0, cd0, fa0, fb0, fc0, fd0, lz0⟩ := id T
  obtain ⟨ca2, cb2, cc2, cd2, fa2, fb2, fc2, fd2, lz2⟩ := id V
  obtain ⟨ca3, cb3, cc3, cd3, fa3, fb3, fc3, fd3, lz3⟩ := id X
  go_wp2_with fail
  refine (iwithin_any _ _ _ _ _ _).mono ?_
  rintro e w6 ⟨rfl, hb6⟩
  rw [hw2]
  clear ca0 cb0 cc0 cd0 fa0 fb0 fc0 fd0 lz0 ca2 cb2 cc2 cd2 fa2 fb2 fc2 fd2 lz2 ca3 cb3 cc3 cd3 fa3 fb3 fc3 fd3 lz3
  replace B := thn B hb6
  replace T := T.next hb6
  replace V := V.next hb6
  replace X := X.next hb6
  clear hb6
  obtain ⟨ca0, cb0, cc0, cd0, fa0, fb0, fc0, fd0, lz0⟩ := id T
  obtain ⟨ca2, cb2, cc2, cd2, fa2, fb2, fc2, fd2, lz2⟩ := id V
  obtain ⟨ca3, cb3, cc3, cd3, fa3, fb3, fc3, fd3, lz3⟩ := id X
  go_wp2
  go_ret
  exact ⟨rfl, B⟩
theorem inertialLasts_walk (x y r s : Int) (d : Int) (hd : -9223372036854775808 ≤ d ∧ d ≤ 9223372036854775807) (l : Int) (hl : -9223372036854775808 ≤ l ∧ l ≤ 9223372036854775807) (w : World) :
    Calls Try.prog 9 #[boxV x y r s, .int .i64 d, .int .i64 l] w fun e w' => e = .returned (.bool true) ∧ Below w.heap.size w w' := by
  rcases lasts_cases x y r s d l with ⟨k, rfl | rfl | rfl, HR⟩ | ⟨n, h0, HR, hn | ⟨hn, R, S, HC, hw1, HD | ⟨R', S', HD, hw2⟩⟩⟩
  · exact lasts_a x y r s d hd l hl w HR
  · exact lasts_b x y r s d hd l hl w HR
  · exact lasts_c x y r s d hd l hl w HR
  · exact lasts_d x y r s d hd l hl w n h0 HR hn
  · exact lasts_e x y r s d hd l hl w n h0 HR hn R S HC hw1 HD
  · exact lasts_f x y r s d hd l hl w n h0 HR hn R S HC hw1 R' S' HD hw2
end Go.Proofs.Ytfeoladkpgojpaa
