/- The laws of chapter 45: coasting twice is coasting once for the sum of the times. -/
import Derived.Test.YtfeoladkpgojpaaLaw45a
namespace Go.Proofs.Ytfeoladkpgojpaa
open Go.RowKit Go.Joins Fdk
set_option linter.unusedVariables false

theorem coast_end (x y r s a b d t : Int) : (∃ k, (k = 1 ∨ k = 2) ∧ coast x y r s a b d t = (0, 0, 0, 0, k) ∧ (bv x y r s = true → k = 2)) ∨
    (bv x y r s = true ∧ okv a b d t = true ∧ bv (x + a * t) (y + b * t) (r + d * t) (s + d * t) = true ∧ coast x y r s a b d t = (x + a * t, y + b * t, r + d * t, s + d * t, 0)) := by
  unfold coast
  cases h1 : bv x y r s
  · exact .inl ⟨1, .inl rfl, by simp, by simp⟩
  cases h2 : okv a b d t
  · exact .inl ⟨2, .inr rfl, by simp, by simp⟩
  cases h3 : bv (x + a * t) (y + b * t) (r + d * t) (s + d * t)
  · exact .inl ⟨2, .inr rfl, by simp, by simp⟩
  · exact .inr ⟨rfl, rfl, rfl, by simp⟩
theorem okv_of {a b d t : Int} (h : okv a b d t = true) : (-2000 ≤ a ∧ a ≤ 2000) ∧ (-2000 ≤ b ∧ b ≤ 2000) ∧ (0 ≤ d ∧ d ≤ 1000) ∧ 0 ≤ t ∧ t ≤ 144000 := by
  simp only [okv, Bool.and_eq_true] at h
  exact ⟨inb_of h.1, inb_of h.2.1, inb_of h.2.2.1, inb_of h.2.2.2⟩
theorem okv_t {a b d t : Int} (h : (-2000 ≤ a ∧ a ≤ 2000) ∧ (-2000 ≤ b ∧ b ≤ 2000) ∧ (0 ≤ d ∧ d ≤ 1000) ∧ 0 ≤ t ∧ t ≤ 144000) : okv a b d t = true := by
  simp only [okv, inb_t h.1, inb_t h.2.1, inb_t h.2.2.1, inb_t h.2.2.2]; rfl
theorem adds_cases (x y r s a b d t m : Int) : (∃ k, (k = 1 ∨ k = 2) ∧ Hid (coast x y r s a b d t = (0, 0, 0, 0, k))) ∨
    (∃ X Y R S, Hid (coast x y r s a b d t = (X, Y, R, S, 0)) ∧ (0 ≤ t ∧ t ≤ 144000) ∧
      (Hid (coast X Y R S a b d m = (0, 0, 0, 0, 2)) ∨
       (∃ X' Y' R' S', Hid (coast X Y R S a b d m = (X', Y', R', S', 0)) ∧ (m > 144000 - t ∨ (m ≤ 144000 - t ∧ 0 ≤ m ∧ Hid (coast x y r s a b d (t + m) = (X', Y', R', S', 0))))))) := by
  rcases coast_end x y r s a b d t with ⟨k, hk, he, _⟩ | ⟨h1, h2, h3, he⟩
  · exact .inl ⟨k, hk, Lib.hid he⟩
  · have ho := okv_of h2
    refine .inr ⟨_, _, _, _, Lib.hid he, ho.2.2.2, ?_⟩
    rcases coast_end (x + a * t) (y + b * t) (r + d * t) (s + d * t) a b d m with ⟨k, hk, he2, hk2⟩ | ⟨g1, g2, g3, he2⟩
    · obtain rfl := hk2 h3
      exact .inl (Lib.hid he2)
    · refine .inr ⟨_, _, _, _, Lib.hid he2, ?_⟩
      have hm := okv_of g2
      by_cases hgt : m > 144000 - t
      · exact .inl hgt
      · refine .inr ⟨by omega, hm.2.2.2.1, ?_⟩
        have e1 : x + a * (t + m) = x + a * t + a * m := by rw [Int.mul_add]; omega
        have e2 : y + b * (t + m) = y + b * t + b * m := by rw [Int.mul_add]; omega
        have e3 : r + d * (t + m) = r + d * t + d * m := by rw [Int.mul_add]; omega
        have e4 : s + d * (t + m) = s + d * t + d * m := by rw [Int.mul_add]; omega
        refine Lib.hid ?_
        unfold coast
        rw [if_pos h1, if_pos (okv_t ⟨ho.1, ho.2.1, ho.2.2.1, by omega, by omega⟩), e1, e2, e3, e4, if_pos g3]
set_option maxHeartbeats 1600000 in
theorem adds_a (x y r s : Int) (a b d t : Int) (m : Int) (hm : -9223372036854775808 ≤ m ∧ m ≤ 9223372036854775807) (w : World) (HC : Hid (coast x y r s a b d t = (0, 0, 0, 0, 1))) :
    Calls Try.prog 5 #[boxV x y r s, .agg #[.int .i64 a, .int .i64 b, .int .i64 d, .int .i64 t], .int .i64 m] w fun e w' => e = .returned (.bool true) ∧ Below w.heap.size w w' := by
  go_enter Try.func5, Try.ntmps5
  go_wp2_with fail
  refine (awake_any _).mono ?_
  rintro e w1 ⟨rfl, hb1⟩
  have B := thn (below_alloc2 w _ _) hb1
  have T := ((cell4_new w _ _ _ _ _).alc _).next hb1
  have U := (cell4_new _ _ _ _ _ _).next hb1
  simp only [World.alloc, Array.size_push] at U
  clear hb1
  obtain ⟨ca0, cb0, cc0, cd0, fa0, fb0, fc0, fd0, lz0⟩ := id T
  obtain ⟨ca1, cb1, cc1, cd1, fa1, fb1, fc1, fd1, lz1⟩ := id U
  go_wp2_with fail
  refine (icoast_any _ _ _ _ _ _ _ _ _).mono ?_
  rintro e w2 ⟨rfl, hb2⟩
  rw [HC.out]
  clear ca0 cb0 cc0 cd0 fa0 fb0 fc0 fd0 lz0 ca1 cb1 cc1 cd1 fa1 fb1 fc1 fd1 lz1
  replace B := thn B hb2
  replace T := T.next hb2
  replace U := U.next hb2
  clear hb2
  obtain ⟨ca0, cb0, cc0, cd0, fa0, fb0, fc0, fd0, lz0⟩ := id T
  obtain ⟨ca1, cb1, cc1, cd1, fa1, fb1, fc1, fd1, lz1⟩ := id U
  go_wp2
  go_ret
  exact ⟨rfl, alc B _⟩
set_option maxHeartbeats 1600000 in
theorem adds_b (x y r s : Int) (a b d t : Int) (m : Int) (hm : -9223372036854775808 ≤ m ∧ m ≤ 9223372036854775807) (w : World) (HC : Hid (coast x y r s a b d t = (0, 0, 0, 0, 2))) :
    Calls Try.prog 5 #[boxV x y r s, .agg #[.int .i64 a, .int .i64 b, .int .i64 d, .int .i64 t], .int .i64 m] w fun e w' => e = .returned (.bool true) ∧ Below w.heap.size w w' := by
  go_enter Try.func5, Try.ntmps5
  go_wp2_with fail
  refine (awake_any _).mono ?_
  rintro e w1 ⟨rfl, hb1⟩
  have B := thn (below_alloc2 w _ _) hb1
  have T := ((cell4_new w _ _ _ _ _).alc _).next hb1
  have U := (cell4_new _ _ _ _ _ _).next hb1
  simp only [World.alloc, Array.size_push] at U
  clear hb1
  obtain ⟨ca0, cb0, cc0, cd0, fa0, fb0, fc0, fd0, lz0⟩ := id T
  obtain ⟨ca1, cb1, cc1, cd1, fa1, fb1, fc1, fd1, lz1⟩ := id U
  go_wp2_with fail
  refine (icoast_any _ _ _ _ _ _ _ _ _).mono ?_
  rintro e w2 ⟨rfl, hb2⟩
  rw [HC.out]
  clear ca0 cb0 cc0 cd0 fa0 fb0 fc0 fd0 lz0 ca1 cb1 cc1 cd1 fa1 fb1 fc1 fd1 lz1
  replace B := thn B hb2
  replace T := T.next hb2
  replace U := U.next hb2
  clear hb2
  obtain ⟨ca0, cb0, cc0, cd0, fa0, fb0, fc0, fd0, lz0⟩ := id T
  obtain ⟨ca1, cb1, cc1, cd1, fa1, fb1, fc1, fd1, lz1⟩ := id U
  go_wp2
  go_ret
  exact ⟨rfl, alc B _⟩
set_option maxHeartbeats 1600000 in
theorem adds_c (x y r s : Int) (a b d t : Int) (m : Int) (hm : -9223372036854775808 ≤ m ∧ m ≤ 9223372036854775807) (w : World) (X Y R S : Int) (HC : Hid (coast x y r s a b d t = (X, Y, R, S, 0))) (ht : 0 ≤ t ∧ t ≤ 144000) (HD : Hid (coast X Y R S a b d m = (0, 0, 0, 0, 2))) :
    Calls Try.prog 5 #[boxV x y r s, .agg #[.int .i64 a, .int .i64 b, .int .i64 d, .int .i64 t], .int .i64 m] w fun e w' => e = .returned (.bool true) ∧ Below w.heap.size w w' := by
  go_enter Try.func5, Try.ntmps5
  go_wp2_with fail
  refine (awake_any _).mono ?_
  rintro e w1 ⟨rfl, hb1⟩
  have B := thn (below_alloc2 w _ _) hb1
  have T := ((cell4_new w _ _ _ _ _).alc _).next hb1
  have U := (cell4_new _ _ _ _ _ _).next hb1
  simp only [World.alloc, Array.size_push] at U
  clear hb1
  obtain ⟨ca0, cb0, cc0, cd0, fa0, fb0, fc0, fd0, lz0⟩ := id T
  obtain ⟨ca1, cb1, cc1, cd1, fa1, fb1, fc1, fd1, lz1⟩ := id U
  go_wp2_with fail
  refine (icoast_any _ _ _ _ _ _ _ _ _).mono ?_
  rintro e w2 ⟨rfl, hb2⟩
  rw [HC.out]
  clear ca0 cb0 cc0 cd0 fa0 fb0 fc0 fd0 lz0 ca1 cb1 cc1 cd1 fa1 fb1 fc1 fd1 lz1
  replace B := thn B hb2
  replace T := T.next hb2
  replace U := U.next hb2
  clear hb2
  obtain ⟨ca0, cb0, cc0, cd0, fa0, fb0, fc0, fd0, lz0⟩ := id T
  obtain ⟨ca1, cb1, cc1, cd1, fa1, fb1, fc1, fd1, lz1⟩ := id U
  go_wp2_with fail
  refine (icoast_any _ _ _ _ _ _ _ _ _).mono ?_
  rintro e w3 ⟨rfl, hb3⟩
  rw [HD.out]
  clear ca0 cb0 cc0 cd0 fa0 fb0 fc0 fd0 lz0 ca1 cb1 cc1 cd1 fa1 fb1 fc1 fd1 lz1
  replace B := thn (alc B _) hb3
  replace T := (T.alc _).next hb3
  replace U := (U.alc _).next hb3
  have V := (cell4_new w2 _ _ _ _ _).next hb3
  clear hb3
  obtain ⟨ca0, cb0, cc0, cd0, fa0, fb0, fc0, fd0, lz0⟩ := id T
  obtain ⟨ca1, cb1, cc1, cd1, fa1, fb1, fc1, fd1, lz1⟩ := id U
  obtain ⟨ca2, cb2, cc2, cd2, fa2, fb2, fc2, fd2, lz2⟩ := id V
  go_wp2
  go_ret
  exact ⟨rfl, alc B _⟩
set_option maxHeartbeats 1600000 in
theorem adds_d (x y r s : Int) (a b d t : Int) (m : Int) (hm : -9223372036854775808 ≤ m ∧ m ≤ 9223372036854775807) (w : World) (X Y R S : Int) (HC : Hid (coast x y r s a b d t = (X, Y, R, S, 0))) (ht : 0 ≤ t ∧ t ≤ 144000) (X' Y' R' S' : Int) (HD : Hid (coast X Y R S a b d m = (X', Y', R', S', 0))) (hgt : m > 144000 - t) :
    Calls Try.prog 5 #[boxV x y r s, .agg #[.int .i64 a, .int .i64 b, .int .i64 d, .int .i64 t], .int .i64 m] w fun e w' => e = .returned (.bool true) ∧ Below w.heap.size w w' := by
  go_enter Try.func5, Try.ntmps5
  go_wp2_with fail
  refine (awake_any _).mono ?_
  rintro e w1 ⟨rfl, hb1⟩
  have B := thn (below_alloc2 w _ _) hb1
  have T := ((cell4_new w _ _ _ _ _).alc _).next hb1
  have U := (cell4_new _ _ _ _ _ _).next hb1
  simp only [World.alloc, Array.size_push] at U
  clear hb1
  obtain ⟨ca0, cb0, cc0, cd0, fa0, fb0, fc0, fd0, lz0⟩ := id T
  obtain ⟨ca1, cb1, cc1, cd1, fa1, fb1, fc1, fd1, lz1⟩ := id U
  go_wp2_with fail
  refine (icoast_any _ _ _ _ _ _ _ _ _).mono ?_
  rintro e w2 ⟨rfl, hb2⟩
  rw [HC.out]
  clear ca0 cb0 cc0 cd0 fa0 fb0 fc0 fd0 lz0 ca1 cb1 cc1 cd1 fa1 fb1 fc1 fd1 lz1
  replace B := thn B hb2
  replace T := T.next hb2
  replace U := U.next hb2
  clear hb2
  obtain ⟨ca0, cb0, cc0, cd0, fa0, fb0, fc0, fd0, lz0⟩ := id T
  obtain ⟨ca1, cb1, cc1, cd1, fa1, fb1, fc1, fd1, lz1⟩ := id U
  go_wp2_with fail
  refine (icoast_any _ _ _ _ _ _ _ _ _).mono ?_
  rintro e w3 ⟨rfl, hb3⟩
  rw [HD.out]
  clear ca0 cb0 cc0 cd0 fa0 fb0 fc0 fd0 lz0 ca1 cb1 cc1 cd1 fa1 fb1 fc1 fd1 lz1
  replace B := thn (alc B _) hb3
  replace T := (T.alc _).next hb3
  replace U := (U.alc _).next hb3
  have V := (cell4_new w2 _ _ _ _ _).next hb3
  clear hb3
  obtain ⟨ca0, cb0, cc0, cd0, fa0, fb0, fc0, fd0, lz0⟩ := id T
  obtain ⟨ca1, cb1, cc1, cd1, fa1, fb1, fc1, fd1, lz1⟩ := id U
  obtain ⟨ca2, cb2, cc2, cd2, fa2, fb2, fc2, fd2, lz2⟩ := id V
  go_wp2
  go_ret
  exact ⟨rfl, alc B _⟩
set_option maxHeartbeats 1600000 in
theorem adds_e (x y r s : Int) (a b d t : Int) (m : Int) (hm : -9223372036854775808 ≤ m ∧ m ≤ 9223372036854775807) (w : World) (X Y R S : Int) (HC : Hid (coast x y r s a b d t = (X, Y, R, S, 0))) (ht : 0 ≤ t ∧ t ≤ 144000) (X' Y' R' S' : Int) (HD : Hid (coast X Y R S a b d m = (X', Y', R', S', 0))) (hle : m ≤ 144000 - t) (h0 : 0 ≤ m) (HE : Hid (coast x y r s a b d (t + m) = (X', Y', R', S', 0))) :
    Calls Try.prog 5 #[boxV x y r s, .agg #[.int .i64 a, .int .i64 b, .int .i64 d, .int .i64 t], .int .i64 m] w fun e w' => e = .returned (.bool true) ∧ Below w.heap.size w w' := by
  go_enter Try.func5, Try.ntmps5
  go_wp2_with fail
  refine (awake_any _).mono ?_
  rintro e w1 ⟨rfl, hb1⟩
  have B := thn (below_alloc2 w _ _) hb1
  have T := ((cell4_new w _ _ _ _ _).alc _).next hb1
  have U := (cell4_new _ _ _ _ _ _).next hb1
  simp only [World.alloc, Array.size_push] at U
  clear hb1
  obtain ⟨ca0, cb0, cc0, cd0, fa0, fb0, fc0, fd0, lz0⟩ := id T
  obtain ⟨ca1, cb1, cc1, cd1, fa1, fb1, fc1, fd1, lz1⟩ := id U
  go_wp2_with fail
  refine (icoast_any _ _ _ _ _ _ _ _ _).mono ?_
  rintro e w2 ⟨rfl, hb2⟩
  rw [HC.out]
  clear ca0 cb0 cc0 cd0 fa0 fb0 fc0 fd0 lz0 ca1 cb1 cc1 cd1 fa1 fb1 fc1 fd1 lz1
  replace B := thn B hb2
  replace T := T.next hb2
  replace U := U.next hb2
  clear hb2
  obtain ⟨ca0, cb0, cc0, cd0, fa0, fb0, fc0, fd0, lz0⟩ := id T
  obtain ⟨ca1, cb1, cc1, cd1, fa1, fb1, fc1, fd1, lz1⟩ := id U
  go_wp2_with fail
  refine (icoast_any _ _ _ _ _ _ _ _ _).mono ?_
  rintro e w3 ⟨rfl, hb3⟩
  rw [HD.out]
  clear ca0 cb0 cc0 cd0 fa0 fb0 fc0 fd0 lz0 ca1 cb1 cc1 cd1 fa1 fb1 fc1 fd1 lz1
  replace B := thn (alc B _) hb3
  replace T := (T.alc _).next hb3
  replace U := (U.alc _).next hb3
  have V := (cell4_new w2 _ _ _ _ _).next hb3
  clear hb3
  obtain ⟨ca0, cb0, cc0, cd0, fa0, fb0, fc0, fd0, lz0⟩ := id T
  obtain ⟨ca1, cb1, cc1, cd1, fa1, fb1, fc1, fd1, lz1⟩ := id U
  obtain ⟨ca2, cb2, cc2, cd2, fa2, fb2, fc2, fd2, lz2⟩ := id V
  go_wp2_with fail
  refine (icoast_any _ _ _ _ _ _ _ _ _).mono ?_
  rintro e w4 ⟨rfl, hb4⟩
  rw [HE.out]
  clear ca0 cb0 cc0 cd0 fa0 fb0 fc0 fd0 lz0 ca1 cb1 cc1 cd1 fa1 fb1 fc1 fd1 lz1 ca2 cb2 cc2 cd2 fa2 fb2 fc2 fd2 lz2
  replace B := thn (alc B _) hb4
  replace T := (T.alc _).next hb4
  replace U := (U.alc _).next hb4
  replace V := (V.alc _).next hb4
  have X := (cell4_new w3 _ _ _ _ _).next hb4
  clear hb4
  obtain ⟨ca0, cb0, cc0, cd0, fa0, fb0, fc0, fd0, lz0⟩ := id T
  obtain ⟨ca1, cb1, cc1, cd1, fa1, fb1, fc1, fd1, lz1⟩ := id U
  obtain ⟨ca2, cb2, cc2, cd2, fa2, fb2, fc2, fd2, lz2⟩ := id V
  obtain ⟨ca3, cb3, cc3, cd3, fa3, fb3, fc3, fd3, lz3⟩ := id X
  go_wp2
  go_ret
  exact ⟨rfl, alc B _⟩
theorem inertialAdds_walk (x y r s : Int) (a b d t : Int) (m : Int) (hm : -9223372036854775808 ≤ m ∧ m ≤ 9223372036854775807) (w : World) :
    Calls Try.prog 5 #[boxV x y r s, .agg #[.int .i64 a, .int .i64 b, .int .i64 d, .int .i64 t], .int .i64 m] w fun e w' => e = .returned (.bool true) ∧ Below w.heap.size w w' := by
  rcases adds_cases x y r s a b d t m with ⟨k, rfl | rfl, HC⟩ | ⟨X, Y, R, S, HC, ht, HD | ⟨X', Y', R', S', HD, hgt | ⟨hle, h0, HE⟩⟩⟩
  · exact adds_a x y r s a b d t m hm w HC
  · exact adds_b x y r s a b d t m hm w HC
  · exact adds_c x y r s a b d t m hm w X Y R S HC ht HD
  · exact adds_d x y r s a b d t m hm w X Y R S HC ht X' Y' R' S' HD hgt
  · exact adds_e x y r s a b d t m hm w X Y R S HC ht X' Y' R' S' HD hle h0 HE
end Go.Proofs.Ytfeoladkpgojpaa
