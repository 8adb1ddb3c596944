/- The laws of chapter 45: a point in the box that moves within the bound of the error is in the coasted box. -/
import Derived.Test.YtfeoladkpgojpaaLaw45d
namespace Go.Proofs.Ytfeoladkpgojpaa
open Go.RowKit Go.Joins Fdk
set_option linter.unusedVariables false

@[go_sem] theorem run_max_int4 {P : Program} {w : World} (ts : Array TypeId) (t : TypeId) (k k1 k2 k3 : IntKind) (x y z u : Int) : (Builtin.max_ ts t #[.int k x, .int k1 y, .int k2 z, .int k3 u]).run P w = .ok (.int k (max (max (max x y) z) u)) w := by
  have e : ∀ a b : Int, (if b > a then b else a) = max a b := fun a b => by split <;> omega
  simp [Builtin.max_, Builtin.max2, e]
/-- two numbers differ by at most k. -/
def nr (a b k : Int) : Bool := decide (a - b ≤ k) && decide (b - a ≤ k)
theorem near_any (a b k : Int) (w : World) (a0 : -2199023255552 ≤ a) (a1 : a ≤ 2199023255552) (b0 : -2199023255552 ≤ b) (b1 : b ≤ 2199023255552) :
    Calls Try.prog 17 #[.int .i64 a, .int .i64 b, .int .i64 k] w fun e w' => e = .returned (.bool (nr a b k)) ∧ w = w' := by
  by_cases h1 : a - b ≤ k
  · have hh : nr a b k = decide (b - a ≤ k) := by simp [nr, h1]
    rw [hh]
    go_enter Try.func17, Try.ntmps17
    go_wp2
    go_ret
    exact ⟨rfl, rfl⟩
  · have hh : nr a b k = false := by simp [nr, h1]
    rw [hh]
    go_enter Try.func17, Try.ntmps17
    go_wp2
    go_ret
    exact ⟨rfl, rfl⟩
theorem nr_of {a b k : Int} (h : nr a b k = true) : a - b ≤ k ∧ b - a ≤ k := by simpa [nr] using h
theorem holds_cases (x y r s a b d t p q g h : Int) :
    (∃ k, (k = 1 ∨ k = 2) ∧ Hid (coast x y r s a b d t = (0, 0, 0, 0, k))) ∨
    (∃ X Y R S, Hid (coast x y r s a b d t = (X, Y, R, S, 0)) ∧ (ins x y r s p q = false ∨
      (ins x y r s p q = true ∧ (-288000000 ≤ a * t ∧ a * t ≤ 288000000) ∧ (-288000000 ≤ b * t ∧ b * t ≤ 288000000) ∧ (-288000000 ≤ d * t ∧ d * t ≤ 288000000) ∧ (-4000000 ≤ p ∧ p ≤ 4000000) ∧ (-4000000 ≤ q ∧ q ≤ 4000000) ∧
        (nr (g - p) (a * t) (d * t) = false ∨ (nr (g - p) (a * t) (d * t) = true ∧ nr (h - q) (b * t) (d * t) = false) ∨ (nr (g - p) (a * t) (d * t) = true ∧ nr (h - q) (b * t) (d * t) = true ∧ ins X Y R S g h = true))))) := by
  rcases coast_end x y r s a b d t with ⟨k, hk, he, _⟩ | ⟨h1, h2, h3, he⟩
  · exact .inl ⟨k, hk, Lib.hid he⟩
  · refine .inr ⟨_, _, _, _, Lib.hid he, ?_⟩
    cases hi : ins x y r s p q
    · exact .inl rfl
    · have e1 := ins_of hi
      have hb := bv_of h1
      have ho := okv_of h2
      have m1 := mulb ho.1.1 ho.1.2 ho.2.2.2.1 ho.2.2.2.2
      have m2 := mulb ho.2.1.1 ho.2.1.2 ho.2.2.2.1 ho.2.2.2.2
      have m3 := mulb (show -2000 ≤ d by omega) (show d ≤ 2000 by omega) ho.2.2.2.1 ho.2.2.2.2
      refine .inr ⟨rfl, m1, m2, m3, by omega, by omega, ?_⟩
      cases n1 : nr (g - p) (a * t) (d * t)
      · exact .inl rfl
      cases n2 : nr (h - q) (b * t) (d * t)
      · exact .inr (.inl ⟨rfl, rfl⟩)
      · have k1 := nr_of n1
        have k2 := nr_of n2
        exact .inr (.inr ⟨rfl, rfl, ins_t h3 (by omega) (by omega)⟩)
set_option maxHeartbeats 3200000 in
theorem holds_a (x y r s : Int) (a b d t : Int) (p q : Int) (g h : Int) (hg : -9223372036854775808 ≤ g ∧ g ≤ 9223372036854775807) (hh : -9223372036854775808 ≤ h ∧ h ≤ 9223372036854775807) (w : World) (HC : Hid (coast x y r s a b d t = (0, 0, 0, 0, 1))) :
    Calls Try.prog 4 #[boxV x y r s, .agg #[.int .i64 a, .int .i64 b, .int .i64 d, .int .i64 t], .agg #[.int .i64 p, .int .i64 q, .int .i64 g, .int .i64 h]] w fun e w' => e = .returned (.bool true) ∧ Below w.heap.size w w' := by
  go_enter Try.func4, Try.ntmps4
  go_wp2_with fail
  refine (awake_any _).mono ?_
  rintro e w1 ⟨rfl, hb1⟩
  have B := thn (below_alloc3 w _ _ _) hb1
  have T := (((cell4_new w _ _ _ _ _).alc _).alc _).next hb1
  have U := ((cell4_new _ _ _ _ _ _).alc _).next hb1
  simp only [World.alloc, Array.size_push] at U
  have O := (cell4_new _ _ _ _ _ _).next hb1
  simp only [World.alloc, Array.size_push] at O
  clear hb1
  obtain ⟨ca0, cb0, cc0, cd0, fa0, fb0, fc0, fd0, lz0⟩ := id T
  obtain ⟨ca1, cb1, cc1, cd1, fa1, fb1, fc1, fd1, lz1⟩ := id U
  obtain ⟨ca2, cb2, cc2, cd2, fa2, fb2, fc2, fd2, lz2⟩ := id O
  go_wp2_with fail
  refine (icoast_any _ _ _ _ _ _ _ _ _).mono ?_
  rintro e w2 ⟨rfl, hb2⟩
  rw [HC.out]
  clear ca0 cb0 cc0 cd0 fa0 fb0 fc0 fd0 lz0 ca1 cb1 cc1 cd1 fa1 fb1 fc1 fd1 lz1 ca2 cb2 cc2 cd2 fa2 fb2 fc2 fd2 lz2
  replace B := thn B hb2
  replace T := T.next hb2
  replace U := U.next hb2
  replace O := O.next hb2
  clear hb2
  obtain ⟨ca0, cb0, cc0, cd0, fa0, fb0, fc0, fd0, lz0⟩ := id T
  obtain ⟨ca1, cb1, cc1, cd1, fa1, fb1, fc1, fd1, lz1⟩ := id U
  obtain ⟨ca2, cb2, cc2, cd2, fa2, fb2, fc2, fd2, lz2⟩ := id O
  go_wp2
  go_ret
  exact ⟨rfl, alc B _⟩
set_option maxHeartbeats 3200000 in
theorem holds_b (x y r s : Int) (a b d t : Int) (p q : Int) (g h : Int) (hg : -9223372036854775808 ≤ g ∧ g ≤ 9223372036854775807) (hh : -9223372036854775808 ≤ h ∧ h ≤ 9223372036854775807) (w : World) (HC : Hid (coast x y r s a b d t = (0, 0, 0, 0, 2))) :
    Calls Try.prog 4 #[boxV x y r s, .agg #[.int .i64 a, .int .i64 b, .int .i64 d, .int .i64 t], .agg #[.int .i64 p, .int .i64 q, .int .i64 g, .int .i64 h]] w fun e w' => e = .returned (.bool true) ∧ Below w.heap.size w w' := by
  go_enter Try.func4, Try.ntmps4
  go_wp2_with fail
  refine (awake_any _).mono ?_
  rintro e w1 ⟨rfl, hb1⟩
  have B := thn (below_alloc3 w _ _ _) hb1
  have T := (((cell4_new w _ _ _ _ _).alc _).alc _).next hb1
  have U := ((cell4_new _ _ _ _ _ _).alc _).next hb1
  simp only [World.alloc, Array.size_push] at U
  have O := (cell4_new _ _ _ _ _ _).next hb1
  simp only [World.alloc, Array.size_push] at O
  clear hb1
  obtain ⟨ca0, cb0, cc0, cd0, fa0, fb0, fc0, fd0, lz0⟩ := id T
  obtain ⟨ca1, cb1, cc1, cd1, fa1, fb1, fc1, fd1, lz1⟩ := id U
  obtain ⟨ca2, cb2, cc2, cd2, fa2, fb2, fc2, fd2, lz2⟩ := id O
  go_wp2_with fail
  refine (icoast_any _ _ _ _ _ _ _ _ _).mono ?_
  rintro e w2 ⟨rfl, hb2⟩
  rw [HC.out]
  clear ca0 cb0 cc0 cd0 fa0 fb0 fc0 fd0 lz0 ca1 cb1 cc1 cd1 fa1 fb1 fc1 fd1 lz1 ca2 cb2 cc2 cd2 fa2 fb2 fc2 fd2 lz2
  replace B := thn B hb2
  replace T := T.next hb2
  replace U := U.next hb2
  replace O := O.next hb2
  clear hb2
  obtain ⟨ca0, cb0, cc0, cd0, fa0, fb0, fc0, fd0, lz0⟩ := id T
  obtain ⟨ca1, cb1, cc1, cd1, fa1, fb1, fc1, fd1, lz1⟩ := id U
  obtain ⟨ca2, cb2, cc2, cd2, fa2, fb2, fc2, fd2, lz2⟩ := id O
  go_wp2
  go_ret
  exact ⟨rfl, alc B _⟩
set_option maxHeartbeats 3200000 in
theorem holds_c (x y r s : Int) (a b d t : Int) (p q : Int) (g h : Int) (hg : -9223372036854775808 ≤ g ∧ g ≤ 9223372036854775807) (hh : -9223372036854775808 ≤ h ∧ h ≤ 9223372036854775807) (w : World) (X Y R S : Int) (HC : Hid (coast x y r s a b d t = (X, Y, R, S, 0))) (hi1 : ins x y r s p q = false) :
    Calls Try.prog 4 #[boxV x y r s, .agg #[.int .i64 a, .int .i64 b, .int .i64 d, .int .i64 t], .agg #[.int .i64 p, .int .i64 q, .int .i64 g, .int .i64 h]] w fun e w' => e = .returned (.bool true) ∧ Below w.heap.size w w' := by
  go_enter Try.func4, Try.ntmps4
  go_wp2_with fail
  refine (awake_any _).mono ?_
  rintro e w1 ⟨rfl, hb1⟩
  have B := thn (below_alloc3 w _ _ _) hb1
  have T := (((cell4_new w _ _ _ _ _).alc _).alc _).next hb1
  have U := ((cell4_new _ _ _ _ _ _).alc _).next hb1
  simp only [World.alloc, Array.size_push] at U
  have O := (cell4_new _ _ _ _ _ _).next hb1
  simp only [World.alloc, Array.size_push] at O
  clear hb1
  obtain ⟨ca0, cb0, cc0, cd0, fa0, fb0, fc0, fd0, lz0⟩ := id T
  obtain ⟨ca1, cb1, cc1, cd1, fa1, fb1, fc1, fd1, lz1⟩ := id U
  obtain ⟨ca2, cb2, cc2, cd2, fa2, fb2, fc2, fd2, lz2⟩ := id O
  go_wp2_with fail
  refine (icoast_any _ _ _ _ _ _ _ _ _).mono ?_
  rintro e w2 ⟨rfl, hb2⟩
  rw [HC.out]
  clear ca0 cb0 cc0 cd0 fa0 fb0 fc0 fd0 lz0 ca1 cb1 cc1 cd1 fa1 fb1 fc1 fd1 lz1 ca2 cb2 cc2 cd2 fa2 fb2 fc2 fd2 lz2
  replace B := thn B hb2
  replace T := T.next hb2
  replace U := U.next hb2
  replace O := O.next hb2
  clear hb2
  obtain ⟨ca0, cb0, cc0, cd0, fa0, fb0, fc0, fd0, lz0⟩ := id T
  obtain ⟨ca1, cb1, cc1, cd1, fa1, fb1, fc1, fd1, lz1⟩ := id U
  obtain ⟨ca2, cb2, cc2, cd2, fa2, fb2, fc2, fd2, lz2⟩ := id O
  go_wp2_with fail
  refine (sinside_any _ _ _ _ _ _ _).mono ?_
  rintro e w3 ⟨rfl, hb3⟩
  rw [hi1]
  clear ca0 cb0 cc0 cd0 fa0 fb0 fc0 fd0 lz0 ca1 cb1 cc1 cd1 fa1 fb1 fc1 fd1 lz1 ca2 cb2 cc2 cd2 fa2 fb2 fc2 fd2 lz2
  replace B := thn (alc B _) hb3
  replace T := (T.alc _).next hb3
  replace U := (U.alc _).next hb3
  replace O := (O.alc _).next hb3
  have V := (cell4_new w2 _ _ _ _ _).next hb3
  clear hb3
  obtain ⟨ca0, cb0, cc0, cd0, fa0, fb0, fc0, fd0, lz0⟩ := id T
  obtain ⟨ca1, cb1, cc1, cd1, fa1, fb1, fc1, fd1, lz1⟩ := id U
  obtain ⟨ca2, cb2, cc2, cd2, fa2, fb2, fc2, fd2, lz2⟩ := id O
  obtain ⟨ca3, cb3, cc3, cd3, fa3, fb3, fc3, fd3, lz3⟩ := id V
  go_wp2
  go_ret
  exact ⟨rfl, B⟩
set_option maxHeartbeats 3200000 in
theorem holds_d (x y r s : Int) (a b d t : Int) (p q : Int) (g h : Int) (hg : -9223372036854775808 ≤ g ∧ g ≤ 9223372036854775807) (hh : -9223372036854775808 ≤ h ∧ h ≤ 9223372036854775807) (w : World) (X Y R S : Int) (HC : Hid (coast x y r s a b d t = (X, Y, R, S, 0))) (hi1 : ins x y r s p q = true) (m1 : -288000000 ≤ a * t ∧ a * t ≤ 288000000) (m2 : -288000000 ≤ b * t ∧ b * t ≤ 288000000) (m3 : -288000000 ≤ d * t ∧ d * t ≤ 288000000) (hp : -4000000 ≤ p ∧ p ≤ 4000000) (hq : -4000000 ≤ q ∧ q ≤ 4000000) (n1 : nr (g - p) (a * t) (d * t) = false) :
    Calls Try.prog 4 #[boxV x y r s, .agg #[.int .i64 a, .int .i64 b, .int .i64 d, .int .i64 t], .agg #[.int .i64 p, .int .i64 q, .int .i64 g, .int .i64 h]] w fun e w' => e = .returned (.bool true) ∧ Below w.heap.size w w' := by
  go_enter Try.func4, Try.ntmps4
  go_wp2_with fail
  refine (awake_any _).mono ?_
  rintro e w1 ⟨rfl, hb1⟩
  have B := thn (below_alloc3 w _ _ _) hb1
  have T := (((cell4_new w _ _ _ _ _).alc _).alc _).next hb1
  have U := ((cell4_new _ _ _ _ _ _).alc _).next hb1
  simp only [World.alloc, Array.size_push] at U
  have O := (cell4_new _ _ _ _ _ _).next hb1
  simp only [World.alloc, Array.size_push] at O
  clear hb1
  obtain ⟨ca0, cb0, cc0, cd0, fa0, fb0, fc0, fd0, lz0⟩ := id T
  obtain ⟨ca1, cb1, cc1, cd1, fa1, fb1, fc1, fd1, lz1⟩ := id U
  obtain ⟨ca2, cb2, cc2, cd2, fa2, fb2, fc2, fd2, lz2⟩ := id O
  go_wp2_with fail
  refine (icoast_any _ _ _ _ _ _ _ _ _).mono ?_
  rintro e w2 ⟨rfl, hb2⟩
  rw [HC.out]
  clear ca0 cb0 cc0 cd0 fa0 fb0 fc0 fd0 lz0 ca1 cb1 cc1 cd1 fa1 fb1 fc1 fd1 lz1 ca2 cb2 cc2 cd2 fa2 fb2 fc2 fd2 lz2
  replace B := thn B hb2
  replace T := T.next hb2
  replace U := U.next hb2
  replace O := O.next hb2
  clear hb2
  obtain ⟨ca0, cb0, cc0, cd0, fa0, fb0, fc0, fd0, lz0⟩ := id T
  obtain ⟨ca1, cb1, cc1, cd1, fa1, fb1, fc1, fd1, lz1⟩ := id U
  obtain ⟨ca2, cb2, cc2, cd2, fa2, fb2, fc2, fd2, lz2⟩ := id O
  go_wp2_with fail
  refine (sinside_any _ _ _ _ _ _ _).mono ?_
  rintro e w3 ⟨rfl, hb3⟩
  rw [hi1]
  clear ca0 cb0 cc0 cd0 fa0 fb0 fc0 fd0 lz0 ca1 cb1 cc1 cd1 fa1 fb1 fc1 fd1 lz1 ca2 cb2 cc2 cd2 fa2 fb2 fc2 fd2 lz2
  replace B := thn (alc B _) hb3
  replace T := (T.alc _).next hb3
  replace U := (U.alc _).next hb3
  replace O := (O.alc _).next hb3
  have V := (cell4_new w2 _ _ _ _ _).next hb3
  clear hb3
  obtain ⟨ca0, cb0, cc0, cd0, fa0, fb0, fc0, fd0, lz0⟩ := id T
  obtain ⟨ca1, cb1, cc1, cd1, fa1, fb1, fc1, fd1, lz1⟩ := id U
  obtain ⟨ca2, cb2, cc2, cd2, fa2, fb2, fc2, fd2, lz2⟩ := id O
  obtain ⟨ca3, cb3, cc3, cd3, fa3, fb3, fc3, fd3, lz3⟩ := id V
  go_wp2_with fail
  all_goals first
    | (go_ret; exact ⟨rfl, B⟩)
    | (refine (near_any _ _ _ _ (by omega) (by omega) (by omega) (by omega)).mono ?_
       rintro e w' ⟨rfl, rfl⟩
       rw [n1]
       go_wp2_with fail
       go_ret
       exact ⟨rfl, B⟩)
set_option maxHeartbeats 3200000 in
theorem holds_e (x y r s : Int) (a b d t : Int) (p q : Int) (g h : Int) (hg : -9223372036854775808 ≤ g ∧ g ≤ 9223372036854775807) (hh : -9223372036854775808 ≤ h ∧ h ≤ 9223372036854775807) (w : World) (X Y R S : Int) (HC : Hid (coast x y r s a b d t = (X, Y, R, S, 0))) (hi1 : ins x y r s p q = true) (m1 : -288000000 ≤ a * t ∧ a * t ≤ 288000000) (m2 : -288000000 ≤ b * t ∧ b * t ≤ 288000000) (m3 : -288000000 ≤ d * t ∧ d * t ≤ 288000000) (hp : -4000000 ≤ p ∧ p ≤ 4000000) (hq : -4000000 ≤ q ∧ q ≤ 4000000) (n1 : nr (g - p) (a * t) (d * t) = true) (n2 : nr (h - q) (b * t) (d * t) = false) :
    Calls Try.prog 4 #[boxV x y r s, .agg #[.int .i64 a, .int .i64 b, .int .i64 d, .int .i64 t], .agg #[.int .i64 p, .int .i64 q, .int .i64 g, .int .i64 h]] w fun e w' => e = .returned (.bool true) ∧ Below w.heap.size w w' := by
  go_enter Try.func4, Try.ntmps4
  go_wp2_with fail
  refine (awake_any _).mono ?_
  rintro e w1 ⟨rfl, hb1⟩
  have B := thn (below_alloc3 w _ _ _) hb1
  have T := (((cell4_new w _ _ _ _ _).alc _).alc _).next hb1
  have U := ((cell4_new _ _ _ _ _ _).alc _).next hb1
  simp only [World.alloc, Array.size_push] at U
  have O := (cell4_new _ _ _ _ _ _).next hb1
  simp only [World.alloc, Array.size_push] at O
  clear hb1
  obtain ⟨ca0, cb0, cc0, cd0, fa0, fb0, fc0, fd0, lz0⟩ := id T
  obtain ⟨ca1, cb1, cc1, cd1, fa1, fb1, fc1, fd1, lz1⟩ := id U
  obtain ⟨ca2, cb2, cc2, cd2, fa2, fb2, fc2, fd2, lz2⟩ := id O
  go_wp2_with fail
  refine (icoast_any _ _ _ _ _ _ _ _ _).mono ?_
  rintro e w2 ⟨rfl, hb2⟩
  rw [HC.out]
  clear ca0 cb0 cc0 cd0 fa0 fb0 fc0 fd0 lz0 ca1 cb1 cc1 cd1 fa1 fb1 fc1 fd1 lz1 ca2 cb2 cc2 cd2 fa2 fb2 fc2 fd2 lz2
  replace B := thn B hb2
  replace T := T.next hb2
  replace U := U.next hb2
  replace O := O.next hb2
  clear hb2
  obtain ⟨ca0, cb0, cc0, cd0, fa0, fb0, fc0, fd0, lz0⟩ := id T
  obtain ⟨ca1, cb1, cc1, cd1, fa1, fb1, fc1, fd1, lz1⟩ := id U
  obtain ⟨ca2, cb2, cc2, cd2, fa2, fb2, fc2, fd2, lz2⟩ := id O
  go_wp2_with fail
  refine (sinside_any _ _ _ _ _ _ _).mono ?_
  rintro e w3 ⟨rfl, hb3⟩
  rw [hi1]
  clear ca0 cb0 cc0 cd0 fa0 fb0 fc0 fd0 lz0 ca1 cb1 cc1 cd1 fa1 fb1 fc1 fd1 lz1 ca2 cb2 cc2 cd2 fa2 fb2 fc2 fd2 lz2
  replace B := thn (alc B _) hb3
  replace T := (T.alc _).next hb3
  replace U := (U.alc _).next hb3
  replace O := (O.alc _).next hb3
  have V := (cell4_new w2 _ _ _ _ _).next hb3
  clear hb3
  obtain ⟨ca0, cb0, cc0, cd0, fa0, fb0, fc0, fd0, lz0⟩ := id T
  obtain ⟨ca1, cb1, cc1, cd1, fa1, fb1, fc1, fd1, lz1⟩ := id U
  obtain ⟨ca2, cb2, cc2, cd2, fa2, fb2, fc2, fd2, lz2⟩ := id O
  obtain ⟨ca3, cb3, cc3, cd3, fa3, fb3, fc3, fd3, lz3⟩ := id V
  go_wp2_with fail
  all_goals first
    | (go_ret; exact ⟨rfl, B⟩)
    | (refine (near_any _ _ _ _ (by omega) (by omega) (by omega) (by omega)).mono ?_
       rintro e w' ⟨rfl, rfl⟩
       rw [n1]
       go_wp2_with fail
       refine (near_any _ _ _ _ (by omega) (by omega) (by omega) (by omega)).mono ?_
       rintro e w' ⟨rfl, rfl⟩
       rw [n2]
       go_wp2_with fail
       go_ret
       exact ⟨rfl, B⟩)
set_option maxHeartbeats 3200000 in
theorem holds_f (x y r s : Int) (a b d t : Int) (p q : Int) (g h : Int) (hg : -9223372036854775808 ≤ g ∧ g ≤ 9223372036854775807) (hh : -9223372036854775808 ≤ h ∧ h ≤ 9223372036854775807) (w : World) (X Y R S : Int) (HC : Hid (coast x y r s a b d t = (X, Y, R, S, 0))) (hi1 : ins x y r s p q = true) (m1 : -288000000 ≤ a * t ∧ a * t ≤ 288000000) (m2 : -288000000 ≤ b * t ∧ b * t ≤ 288000000) (m3 : -288000000 ≤ d * t ∧ d * t ≤ 288000000) (hp : -4000000 ≤ p ∧ p ≤ 4000000) (hq : -4000000 ≤ q ∧ q ≤ 4000000) (n1 : nr (g - p) (a * t) (d * t) = true) (n2 : nr (h - q) (b * t) (d * t) = true) (hi2 : ins X Y R S g h = true) :
    Calls Try.prog 4 #[boxV x y r s, .agg #[.int .i64 a, .int .i64 b, .int .i64 d, .int .i64 t], .agg #[.int .i64 p, .int .i64 q, .int .i64 g, .int .i64 h]] w fun e w' => e = .returned (.bool true) ∧ Below w.heap.size w w' := by
  go_enter Try.func4, Try.ntmps4
  go_wp2_with fail
  refine (awake_any _).mono ?_
  rintro e w1 ⟨rfl, hb1⟩
  have B := thn (below_alloc3 w _ _ _) hb1
  have T := (((cell4_new w _ _ _ _ _).alc _).alc _).next hb1
  have U := ((cell4_new _ _ _ _ _ _).alc _).next hb1
  simp only [World.alloc, Array.size_push] at U
  have O := (cell4_new _ _ _ _ _ _).next hb1
  simp only [World.alloc, Array.size_push] at O
  clear hb1
  obtain ⟨ca0, cb0, cc0, cd0, fa0, fb0, fc0, fd0, lz0⟩ := id T
  obtain ⟨ca1, cb1, cc1, cd1, fa1, fb1, fc1, fd1, lz1⟩ := id U
  obtain ⟨ca2, cb2, cc2, cd2, fa2, fb2, fc2, fd2, lz2⟩ := id O
  go_wp2_with fail
  refine (icoast_any _ _ _ _ _ _ _ _ _).mono ?_
  rintro e w2 ⟨rfl, hb2⟩
  rw [HC.out]
  clear ca0 cb0 cc0 cd0 fa0 fb0 fc0 fd0 lz0 ca1 cb1 cc1 cd1 fa1 fb1 fc1 fd1 lz1 ca2 cb2 cc2 cd2 fa2 fb2 fc2 fd2 lz2
  replace B := thn B hb2
  replace T := T.next hb2
  replace U := U.next hb2
  replace O := O.next hb2
  clear hb2
  obtain ⟨ca0, cb0, cc0, cd0, fa0, fb0, fc0, fd0, lz0⟩ := id T
  obtain ⟨ca1, cb1, cc1, cd1, fa1, fb1, fc1, fd1, lz1⟩ := id U
  obtain ⟨ca2, cb2, cc2, cd2, fa2, fb2, fc2, fd2, lz2⟩ := id O
  go_wp2_with fail
  refine (sinside_any _ _ _ _ _ _ _).mono ?_
  rintro e w3 ⟨rfl, hb3⟩
  rw [hi1]
  clear ca0 cb0 cc0 cd0 fa0 fb0 fc0 fd0 lz0 ca1 cb1 cc1 cd1 fa1 fb1 fc1 fd1 lz1 ca2 cb2 cc2 cd2 fa2 fb2 fc2 fd2 lz2
  replace B := thn (alc B _) hb3
  replace T := (T.alc _).next hb3
  replace U := (U.alc _).next hb3
  replace O := (O.alc _).next hb3
  have V := (cell4_new w2 _ _ _ _ _).next hb3
  clear hb3
  obtain ⟨ca0, cb0, cc0, cd0, fa0, fb0, fc0, fd0, lz0⟩ := id T
  obtain ⟨ca1, cb1, cc1, cd1, fa1, fb1, fc1, fd1, lz1⟩ := id U
  obtain ⟨ca2, cb2, cc2, cd2, fa2, fb2, fc2, fd2, lz2⟩ := id O
  obtain ⟨ca3, cb3, cc3, cd3, fa3, fb3, fc3, fd3, lz3⟩ := id V
  go_wp2_with fail
  all_goals first
    | (go_ret; exact ⟨rfl, B⟩)
    | (refine (near_any _ _ _ _ (by omega) (by omega) (by omega) (by omega)).mono ?_
       rintro e w' ⟨rfl, rfl⟩
       rw [n1]
       go_wp2_with fail
       refine (near_any _ _ _ _ (by omega) (by omega) (by omega) (by omega)).mono ?_
       rintro e w' ⟨rfl, rfl⟩
       rw [n2]
       go_wp2_with fail
       refine (sinside_any _ _ _ _ _ _ _).mono ?_
       rintro e w4 ⟨rfl, hb4⟩
       rw [hi2]
       go_wp2
       go_ret
       exact ⟨rfl, thn B hb4⟩)
theorem inertialHolds_walk (x y r s : Int) (a b d t : Int) (p q g h : Int) (_ : -9223372036854775808 ≤ p ∧ p ≤ 9223372036854775807) (_ : -9223372036854775808 ≤ q ∧ q ≤ 9223372036854775807) (hg : -9223372036854775808 ≤ g ∧ g ≤ 9223372036854775807) (hh : -9223372036854775808 ≤ h ∧ h ≤ 9223372036854775807) (w : World) :
    Calls Try.prog 4 #[boxV x y r s, .agg #[.int .i64 a, .int .i64 b, .int .i64 d, .int .i64 t], .agg #[.int .i64 p, .int .i64 q, .int .i64 g, .int .i64 h]] w fun e w' => e = .returned (.bool true) ∧ Below w.heap.size w w' := by
  rcases holds_cases x y r s a b d t p q g h with ⟨k, rfl | rfl, HC⟩ | ⟨X, Y, R, S, HC, hi1 | ⟨hi1, m1, m2, m3, hp, hq, n1 | ⟨n1, n2⟩ | ⟨n1, n2, hi2⟩⟩⟩
  · exact holds_a x y r s a b d t p q g h hg hh w HC
  · exact holds_b x y r s a b d t p q g h hg hh w HC
  · exact holds_c x y r s a b d t p q g h hg hh w X Y R S HC hi1
  · exact holds_d x y r s a b d t p q g h hg hh w X Y R S HC hi1 m1 m2 m3 hp hq n1
  · exact holds_e x y r s a b d t p q g h hg hh w X Y R S HC hi1 m1 m2 m3 hp hq n1 n2
  · exact holds_f x y r s a b d t p q g h hg hh w X Y R S HC hi1 m1 m2 m3 hp hq n1 n2 hi2
end Go.Proofs.Ytfeoladkpgojpaa
