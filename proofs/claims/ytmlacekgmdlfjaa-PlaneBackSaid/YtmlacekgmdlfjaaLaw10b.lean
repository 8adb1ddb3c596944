/- The laws of chapter 10 with tolerances: the walks. -/
import Derived.Test.YtmlacekgmdlfjaaPlnJ
import Derived.Test.YtmlacekgmdlfjaaAwake10
namespace Go.Proofs.Ytmlacekgmdlfjaa
open Go.RowKit Go.Joins Fdk
set_option linter.unusedVariables false
@[go_sem] theorem run_max_int4 {P : Program} {w : World} (ts : Array TypeId) (t : TypeId) (k k1 k2 k3 : IntKind) (x y z u : Int) : (Builtin.max_ ts t #[.int k x, .int k1 y, .int k2 z, .int k3 u]).run P w = .ok (.int k (max (max (max x y) z) u)) w := by
  have e : ∀ a b : Int, (if b > a then b else a) = max a b := fun a b => by split <;> omega
  simp [Builtin.max_, Builtin.max2, e]
theorem tt : (true && true) = true := rfl

set_option maxHeartbeats 4000000 in
theorem back_a (a b x y : Int) (w : World) (hf : frv a b x y = (0, 0, 1)) :
    Calls Try.prog 4 #[posV a b, ptV x y] w fun e w' => e = .returned (.bool true) ∧ Below w.heap.size w w' := by
  have HF := Lib.hid hf
  clear hf
  go_enter Try.func4, Try.ntmps4
  go_wp2_with fail
  refine (awake_any _).mono ?_
  rintro e w1 ⟨rfl, hb⟩
  have B := thn (below_alloc2 w _ _) hb
  have T := ((c2_new w (.int .i64 a) (.int .i64 b) 23).alc _).next hb
  have U := (c2_new _ (.int .i64 x) (.int .i64 y) 25).next hb
  simp only [World.alloc, Array.size_push] at U
  clear hb
  obtain ⟨t'0, t'1, t'2, t'3, t'l⟩ := id T
  obtain ⟨u'0, u'1, u'2, u'3, u'l⟩ := id U
  go_wp2_with fail
  clear t'0 t'1 t'2 t'3 t'l u'0 u'1 u'2 u'3 u'l
  refine (from_any _ _ _ _ _).mono ?_
  rintro e w2 ⟨rfl, hb⟩
  rw [HF.out]
  replace B := alc (thn B hb) (.cells #[.int .i64 0, .int .i64 0] 23)
  replace T := (T.next hb).alc (.cells #[.int .i64 0, .int .i64 0] 23)
  replace U := (U.next hb).alc (.cells #[.int .i64 0, .int .i64 0] 23)
  have Q := c2_new w2 (.int .i64 0) (.int .i64 0) 23
  clear hb
  go_wp2
  go_ret
  exact ⟨rfl, B⟩
set_option maxHeartbeats 4000000 in
theorem back_b (a b x y : Int) (w : World) (hf : frv a b x y = (0, 0, 2)) :
    Calls Try.prog 4 #[posV a b, ptV x y] w fun e w' => e = .returned (.bool true) ∧ Below w.heap.size w w' := by
  have HF := Lib.hid hf
  clear hf
  go_enter Try.func4, Try.ntmps4
  go_wp2_with fail
  refine (awake_any _).mono ?_
  rintro e w1 ⟨rfl, hb⟩
  have B := thn (below_alloc2 w _ _) hb
  have T := ((c2_new w (.int .i64 a) (.int .i64 b) 23).alc _).next hb
  have U := (c2_new _ (.int .i64 x) (.int .i64 y) 25).next hb
  simp only [World.alloc, Array.size_push] at U
  clear hb
  obtain ⟨t'0, t'1, t'2, t'3, t'l⟩ := id T
  obtain ⟨u'0, u'1, u'2, u'3, u'l⟩ := id U
  go_wp2_with fail
  clear t'0 t'1 t'2 t'3 t'l u'0 u'1 u'2 u'3 u'l
  refine (from_any _ _ _ _ _).mono ?_
  rintro e w2 ⟨rfl, hb⟩
  rw [HF.out]
  replace B := alc (thn B hb) (.cells #[.int .i64 0, .int .i64 0] 23)
  replace T := (T.next hb).alc (.cells #[.int .i64 0, .int .i64 0] 23)
  replace U := (U.next hb).alc (.cells #[.int .i64 0, .int .i64 0] 23)
  have Q := c2_new w2 (.int .i64 0) (.int .i64 0) 23
  clear hb
  go_wp2
  go_ret
  exact ⟨rfl, B⟩
set_option maxHeartbeats 4000000 in
theorem back_c (a b x y e f : Int) (w : World) (hf : frv a b x y = (e, f, 0)) (ht : tov a b e f = (0, 0, 2)) (bx : -2000000 ≤ x ∧ x ≤ 2000000) (bY : -2000000 ≤ y ∧ y ≤ 2000000) (hm : 1999996 ≤ max x (max (-x) (max y (-y)))) :
    Calls Try.prog 4 #[posV a b, ptV x y] w fun e w' => e = .returned (.bool true) ∧ Below w.heap.size w w' := by
  have HF := Lib.hid hf
  clear hf
  have HT := Lib.hid ht
  clear ht
  have en : IntKind.i64.wrap (-x) = -x := IntWalk.i64_in _ (by omega)
  have em : IntKind.i64.wrap (-y) = -y := IntWalk.i64_in _ (by omega)
  have HM := Lib.hid hm
  clear hm
  go_enter Try.func4, Try.ntmps4
  go_wp2_with fail
  refine (awake_any _).mono ?_
  rintro e w1 ⟨rfl, hb⟩
  have B := thn (below_alloc2 w _ _) hb
  have T := ((c2_new w (.int .i64 a) (.int .i64 b) 23).alc _).next hb
  have U := (c2_new _ (.int .i64 x) (.int .i64 y) 25).next hb
  simp only [World.alloc, Array.size_push] at U
  clear hb
  obtain ⟨t'0, t'1, t'2, t'3, t'l⟩ := id T
  obtain ⟨u'0, u'1, u'2, u'3, u'l⟩ := id U
  go_wp2_with fail
  clear t'0 t'1 t'2 t'3 t'l u'0 u'1 u'2 u'3 u'l
  refine (from_any _ _ _ _ _).mono ?_
  rintro e w2 ⟨rfl, hb⟩
  rw [HF.out]
  replace B := alc (thn B hb) (.cells #[.int .i64 e, .int .i64 f] 23)
  replace T := (T.next hb).alc (.cells #[.int .i64 e, .int .i64 f] 23)
  replace U := (U.next hb).alc (.cells #[.int .i64 e, .int .i64 f] 23)
  have Q := c2_new w2 (.int .i64 e) (.int .i64 f) 23
  clear hb
  obtain ⟨t'0, t'1, t'2, t'3, t'l⟩ := id T
  go_wp2_with fail
  clear t'0 t'1 t'2 t'3 t'l
  generalize w2.alloc (.cells #[.int .i64 e, .int .i64 f] 23) = vw2 at *
  generalize w2.heap.size = bw2 at *
  obtain ⟨t'0, t'1, t'2, t'3, t'l⟩ := id T
  obtain ⟨q'0, q'1, q'2, q'3, q'l⟩ := id Q
  go_wp2_with fail
  clear t'0 t'1 t'2 t'3 t'l q'0 q'1 q'2 q'3 q'l
  refine (to_any _ _ _ _ _).mono ?_
  rintro e w3 ⟨rfl, hb⟩
  rw [HT.out]
  replace B := alc (thn B hb) (.cells #[.int .i64 0, .int .i64 0] 25)
  replace T := (T.next hb).alc (.cells #[.int .i64 0, .int .i64 0] 25)
  replace U := (U.next hb).alc (.cells #[.int .i64 0, .int .i64 0] 25)
  replace Q := (Q.next hb).alc (.cells #[.int .i64 0, .int .i64 0] 25)
  have X := c2_new w3 (.int .i64 0) (.int .i64 0) 25
  clear hb
  have hm := HM.out
  obtain ⟨u'0, u'1, u'2, u'3, u'l⟩ := id U
  clear HM
  go_wp2
  go_ret
  exact ⟨rfl, B⟩
set_option maxHeartbeats 4000000 in
theorem back_d (a b x y e f u v : Int) (w : World) (hf : frv a b x y = (e, f, 0)) (ht : tov a b e f = (u, v, 0)) (bx : -2000000 ≤ x ∧ x ≤ 2000000) (bY : -2000000 ≤ y ∧ y ≤ 2000000) (hu : -2 ≤ u - x ∧ u - x ≤ 2) (hv : -2 ≤ v - y ∧ v - y ≤ 2) :
    Calls Try.prog 4 #[posV a b, ptV x y] w fun e w' => e = .returned (.bool true) ∧ Below w.heap.size w w' := by
  have HF := Lib.hid hf
  clear hf
  have HT := Lib.hid ht
  clear ht
  have h1 : u - x ≤ 4 := by omega
  have h2 : x - u ≤ 4 := by omega
  have h3 : v - y ≤ 4 := by omega
  have h4 : y - v ≤ 4 := by omega
  go_enter Try.func4, Try.ntmps4
  go_wp2_with fail
  refine (awake_any _).mono ?_
  rintro e w1 ⟨rfl, hb⟩
  have B := thn (below_alloc2 w _ _) hb
  have T := ((c2_new w (.int .i64 a) (.int .i64 b) 23).alc _).next hb
  have U := (c2_new _ (.int .i64 x) (.int .i64 y) 25).next hb
  simp only [World.alloc, Array.size_push] at U
  clear hb
  obtain ⟨t'0, t'1, t'2, t'3, t'l⟩ := id T
  obtain ⟨u'0, u'1, u'2, u'3, u'l⟩ := id U
  go_wp2_with fail
  clear t'0 t'1 t'2 t'3 t'l u'0 u'1 u'2 u'3 u'l
  refine (from_any _ _ _ _ _).mono ?_
  rintro e w2 ⟨rfl, hb⟩
  rw [HF.out]
  replace B := alc (thn B hb) (.cells #[.int .i64 e, .int .i64 f] 23)
  replace T := (T.next hb).alc (.cells #[.int .i64 e, .int .i64 f] 23)
  replace U := (U.next hb).alc (.cells #[.int .i64 e, .int .i64 f] 23)
  have Q := c2_new w2 (.int .i64 e) (.int .i64 f) 23
  clear hb
  obtain ⟨t'0, t'1, t'2, t'3, t'l⟩ := id T
  go_wp2_with fail
  clear t'0 t'1 t'2 t'3 t'l
  generalize w2.alloc (.cells #[.int .i64 e, .int .i64 f] 23) = vw2 at *
  generalize w2.heap.size = bw2 at *
  obtain ⟨t'0, t'1, t'2, t'3, t'l⟩ := id T
  obtain ⟨q'0, q'1, q'2, q'3, q'l⟩ := id Q
  go_wp2_with fail
  clear t'0 t'1 t'2 t'3 t'l q'0 q'1 q'2 q'3 q'l
  refine (to_any _ _ _ _ _).mono ?_
  rintro e w3 ⟨rfl, hb⟩
  rw [HT.out]
  replace B := alc (thn B hb) (.cells #[.int .i64 u, .int .i64 v] 25)
  replace T := (T.next hb).alc (.cells #[.int .i64 u, .int .i64 v] 25)
  replace U := (U.next hb).alc (.cells #[.int .i64 u, .int .i64 v] 25)
  replace Q := (Q.next hb).alc (.cells #[.int .i64 u, .int .i64 v] 25)
  have X := c2_new w3 (.int .i64 u) (.int .i64 v) 25
  clear hb
  obtain ⟨u'0, u'1, u'2, u'3, u'l⟩ := id U
  obtain ⟨x'0, x'1, x'2, x'3, x'l⟩ := id X
  go_wp2
  go_ret
  exact ⟨rfl, B⟩
set_option maxHeartbeats 4000000 in
theorem forth_a (a b c d : Int) (w : World) (hf : tov a b c d = (0, 0, 1)) :
    Calls Try.prog 8 #[posV a b, posV c d] w fun e w' => e = .returned (.bool true) ∧ Below w.heap.size w w' := by
  have HF := Lib.hid hf
  clear hf
  go_enter Try.func8, Try.ntmps8
  go_wp2_with fail
  refine (awake_any _).mono ?_
  rintro e w1 ⟨rfl, hb⟩
  have B := thn (below_alloc2 w _ _) hb
  have T := ((c2_new w (.int .i64 a) (.int .i64 b) 23).alc _).next hb
  have U := (c2_new _ (.int .i64 c) (.int .i64 d) 23).next hb
  simp only [World.alloc, Array.size_push] at U
  clear hb
  obtain ⟨t'0, t'1, t'2, t'3, t'l⟩ := id T
  obtain ⟨u'0, u'1, u'2, u'3, u'l⟩ := id U
  go_wp2_with fail
  clear t'0 t'1 t'2 t'3 t'l u'0 u'1 u'2 u'3 u'l
  refine (to_any _ _ _ _ _).mono ?_
  rintro e w2 ⟨rfl, hb⟩
  rw [HF.out]
  replace B := alc (thn B hb) (.cells #[.int .i64 0, .int .i64 0] 25)
  replace T := (T.next hb).alc (.cells #[.int .i64 0, .int .i64 0] 25)
  replace U := (U.next hb).alc (.cells #[.int .i64 0, .int .i64 0] 25)
  have Q := c2_new w2 (.int .i64 0) (.int .i64 0) 25
  clear hb
  go_wp2
  go_ret
  exact ⟨rfl, B⟩
set_option maxHeartbeats 4000000 in
theorem forth_b (a b c d : Int) (w : World) (hf : tov a b c d = (0, 0, 2)) :
    Calls Try.prog 8 #[posV a b, posV c d] w fun e w' => e = .returned (.bool true) ∧ Below w.heap.size w w' := by
  have HF := Lib.hid hf
  clear hf
  go_enter Try.func8, Try.ntmps8
  go_wp2_with fail
  refine (awake_any _).mono ?_
  rintro e w1 ⟨rfl, hb⟩
  have B := thn (below_alloc2 w _ _) hb
  have T := ((c2_new w (.int .i64 a) (.int .i64 b) 23).alc _).next hb
  have U := (c2_new _ (.int .i64 c) (.int .i64 d) 23).next hb
  simp only [World.alloc, Array.size_push] at U
  clear hb
  obtain ⟨t'0, t'1, t'2, t'3, t'l⟩ := id T
  obtain ⟨u'0, u'1, u'2, u'3, u'l⟩ := id U
  go_wp2_with fail
  clear t'0 t'1 t'2 t'3 t'l u'0 u'1 u'2 u'3 u'l
  refine (to_any _ _ _ _ _).mono ?_
  rintro e w2 ⟨rfl, hb⟩
  rw [HF.out]
  replace B := alc (thn B hb) (.cells #[.int .i64 0, .int .i64 0] 25)
  replace T := (T.next hb).alc (.cells #[.int .i64 0, .int .i64 0] 25)
  replace U := (U.next hb).alc (.cells #[.int .i64 0, .int .i64 0] 25)
  have Q := c2_new w2 (.int .i64 0) (.int .i64 0) 25
  clear hb
  go_wp2
  go_ret
  exact ⟨rfl, B⟩
set_option maxHeartbeats 4000000 in
theorem forth_c (a b c d u v e f D : Int) (w : World) (ht : tov a b c d = (u, v, 0)) (hf : frv a b u v = (e, f, 0)) (hd : dstv c d e f = (D, 0)) (h6 : D ≤ 6) :
    Calls Try.prog 8 #[posV a b, posV c d] w fun e w' => e = .returned (.bool true) ∧ Below w.heap.size w w' := by
  have HF := Lib.hid hf
  clear hf
  have HT := Lib.hid ht
  clear ht
  have HD := Lib.hid hd
  clear hd
  go_enter Try.func8, Try.ntmps8
  go_wp2_with fail
  refine (awake_any _).mono ?_
  rintro e w1 ⟨rfl, hb⟩
  have B := thn (below_alloc2 w _ _) hb
  have T := ((c2_new w (.int .i64 a) (.int .i64 b) 23).alc _).next hb
  have U := (c2_new _ (.int .i64 c) (.int .i64 d) 23).next hb
  simp only [World.alloc, Array.size_push] at U
  clear hb
  obtain ⟨t'0, t'1, t'2, t'3, t'l⟩ := id T
  obtain ⟨u'0, u'1, u'2, u'3, u'l⟩ := id U
  go_wp2_with fail
  clear t'0 t'1 t'2 t'3 t'l u'0 u'1 u'2 u'3 u'l
  refine (to_any _ _ _ _ _).mono ?_
  rintro e w2 ⟨rfl, hb⟩
  rw [HT.out]
  replace B := alc (thn B hb) (.cells #[.int .i64 u, .int .i64 v] 25)
  replace T := (T.next hb).alc (.cells #[.int .i64 u, .int .i64 v] 25)
  replace U := (U.next hb).alc (.cells #[.int .i64 u, .int .i64 v] 25)
  have Q := c2_new w2 (.int .i64 u) (.int .i64 v) 25
  clear hb
  obtain ⟨t'0, t'1, t'2, t'3, t'l⟩ := id T
  go_wp2_with fail
  clear t'0 t'1 t'2 t'3 t'l
  generalize w2.alloc (.cells #[.int .i64 u, .int .i64 v] 25) = vw2 at *
  generalize w2.heap.size = bw2 at *
  obtain ⟨t'0, t'1, t'2, t'3, t'l⟩ := id T
  obtain ⟨q'0, q'1, q'2, q'3, q'l⟩ := id Q
  go_wp2_with fail
  clear t'0 t'1 t'2 t'3 t'l q'0 q'1 q'2 q'3 q'l
  refine (from_any _ _ _ _ _).mono ?_
  rintro e w3 ⟨rfl, hb⟩
  rw [HF.out]
  replace B := alc (thn B hb) (.cells #[.int .i64 e, .int .i64 f] 23)
  replace T := (T.next hb).alc (.cells #[.int .i64 e, .int .i64 f] 23)
  replace U := (U.next hb).alc (.cells #[.int .i64 e, .int .i64 f] 23)
  replace Q := (Q.next hb).alc (.cells #[.int .i64 e, .int .i64 f] 23)
  have X := c2_new w3 (.int .i64 e) (.int .i64 f) 23
  clear hb
  obtain ⟨u'0, u'1, u'2, u'3, u'l⟩ := id U
  go_wp2_with fail
  clear u'0 u'1 u'2 u'3 u'l
  generalize w3.alloc (.cells #[.int .i64 e, .int .i64 f] 23) = vw3 at *
  generalize w3.heap.size = bw3 at *
  obtain ⟨u'0, u'1, u'2, u'3, u'l⟩ := id U
  obtain ⟨x'0, x'1, x'2, x'3, x'l⟩ := id X
  go_wp2_with fail
  clear u'0 u'1 u'2 u'3 u'l x'0 x'1 x'2 x'3 x'l
  refine (dist_any _ _ _ _ _).mono ?_
  rintro e' w4 ⟨rfl, hb⟩
  rw [HD.out]
  replace B := thn B hb
  clear hb T U Q X
  go_wp2
  go_ret
  exact ⟨rfl, B⟩
set_option maxHeartbeats 4000000 in
theorem mer_a0 (a b s : Int) (w : World) (hs : -9223372036854775808 ≤ s ∧ s ≤ 9223372036854775807) (h0 : s < 0) (ha : alv a b 0 1000 = (0, 0, 1)) (ht : tov a b 0 0 = (0, 0, 1)) :
    Calls Try.prog 10 #[posV a b, .int .i64 s] w fun e w' => e = .returned (.bool true) ∧ Below w.heap.size w w' := by
  have HA := Lib.hid ha
  clear ha
  have HT := Lib.hid ht
  clear ht
  go_enter Try.func10, Try.ntmps10
  go_wp2_with fail
  refine (awake_any _).mono ?_
  rintro e w1 ⟨rfl, hb⟩
  have B := thn (below_alloc1 w _) hb
  have T := (c2_new w (.int .i64 a) (.int .i64 b) 23).next hb
  clear hb
  obtain ⟨t'0, t'1, t'2, t'3, t'l⟩ := id T
  go_wp2_with fail
  clear t'0 t'1 t'2 t'3 t'l
  refine (along_any _ _ _ _ _).mono ?_
  rintro e w2 ⟨rfl, hb⟩
  rw [HA.out]
  replace B := alc (thn B hb) (.cells #[.int .i64 0, .int .i64 0] 23)
  replace T := (T.next hb).alc (.cells #[.int .i64 0, .int .i64 0] 23)
  have Q := c2_new w2 (.int .i64 0) (.int .i64 0) 23
  clear hb
  obtain ⟨t'0, t'1, t'2, t'3, t'l⟩ := id T
  go_wp2_with fail
  clear t'0 t'1 t'2 t'3 t'l
  generalize w2.alloc (.cells #[.int .i64 0, .int .i64 0] 23) = vw2 at *
  generalize w2.heap.size = bw2 at *
  obtain ⟨t'0, t'1, t'2, t'3, t'l⟩ := id T
  obtain ⟨q'0, q'1, q'2, q'3, q'l⟩ := id Q
  go_wp2_with fail
  clear t'0 t'1 t'2 t'3 t'l q'0 q'1 q'2 q'3 q'l
  refine (to_any _ _ _ _ _).mono ?_
  rintro e w3 ⟨rfl, hb⟩
  rw [HT.out]
  replace B := alc (thn B hb) (.cells #[.int .i64 0, .int .i64 0] 25)
  replace T := (T.next hb).alc (.cells #[.int .i64 0, .int .i64 0] 25)
  replace Q := (Q.next hb).alc (.cells #[.int .i64 0, .int .i64 0] 25)
  have X := c2_new w3 (.int .i64 0) (.int .i64 0) 25
  clear hb
  obtain ⟨x'0, x'1, x'2, x'3, x'l⟩ := id X
  go_wp2
  go_ret
  exact ⟨rfl, B⟩
set_option maxHeartbeats 4000000 in
theorem mer_b0 (a b s : Int) (w : World) (hs : -9223372036854775808 ≤ s ∧ s ≤ 9223372036854775807) (h0 : s < 0) (c d : Int) (ha : alv a b 0 1000 = (c, d, 0)) (ht : tov a b c d = (0, 0, 1)) :
    Calls Try.prog 10 #[posV a b, .int .i64 s] w fun e w' => e = .returned (.bool true) ∧ Below w.heap.size w w' := by
  have HA := Lib.hid ha
  clear ha
  have HT := Lib.hid ht
  clear ht
  go_enter Try.func10, Try.ntmps10
  go_wp2_with fail
  refine (awake_any _).mono ?_
  rintro e w1 ⟨rfl, hb⟩
  have B := thn (below_alloc1 w _) hb
  have T := (c2_new w (.int .i64 a) (.int .i64 b) 23).next hb
  clear hb
  obtain ⟨t'0, t'1, t'2, t'3, t'l⟩ := id T
  go_wp2_with fail
  clear t'0 t'1 t'2 t'3 t'l
  refine (along_any _ _ _ _ _).mono ?_
  rintro e w2 ⟨rfl, hb⟩
  rw [HA.out]
  replace B := alc (thn B hb) (.cells #[.int .i64 c, .int .i64 d] 23)
  replace T := (T.next hb).alc (.cells #[.int .i64 c, .int .i64 d] 23)
  have Q := c2_new w2 (.int .i64 c) (.int .i64 d) 23
  clear hb
  obtain ⟨t'0, t'1, t'2, t'3, t'l⟩ := id T
  go_wp2_with fail
  clear t'0 t'1 t'2 t'3 t'l
  generalize w2.alloc (.cells #[.int .i64 c, .int .i64 d] 23) = vw2 at *
  generalize w2.heap.size = bw2 at *
  obtain ⟨t'0, t'1, t'2, t'3, t'l⟩ := id T
  obtain ⟨q'0, q'1, q'2, q'3, q'l⟩ := id Q
  go_wp2_with fail
  clear t'0 t'1 t'2 t'3 t'l q'0 q'1 q'2 q'3 q'l
  refine (to_any _ _ _ _ _).mono ?_
  rintro e w3 ⟨rfl, hb⟩
  rw [HT.out]
  replace B := alc (thn B hb) (.cells #[.int .i64 0, .int .i64 0] 25)
  replace T := (T.next hb).alc (.cells #[.int .i64 0, .int .i64 0] 25)
  replace Q := (Q.next hb).alc (.cells #[.int .i64 0, .int .i64 0] 25)
  have X := c2_new w3 (.int .i64 0) (.int .i64 0) 25
  clear hb
  obtain ⟨x'0, x'1, x'2, x'3, x'l⟩ := id X
  go_wp2
  go_ret
  exact ⟨rfl, B⟩
set_option maxHeartbeats 4000000 in
theorem mer_c0 (a b s : Int) (w : World) (hs : -9223372036854775808 ≤ s ∧ s ≤ 9223372036854775807) (h0 : s < 0) (c d u v : Int) (ha : alv a b 0 1000 = (c, d, 0)) (ht : tov a b c d = (u, v, 0)) (hu : -2 ≤ u ∧ u ≤ 2) (h4 : v ≥ 1000 - 8) (h5 : v ≤ 1000 * 49 / 48 + 8) :
    Calls Try.prog 10 #[posV a b, .int .i64 s] w fun e w' => e = .returned (.bool true) ∧ Below w.heap.size w w' := by
  have HA := Lib.hid ha
  clear ha
  have HT := Lib.hid ht
  clear ht
  have g1 : u - 0 ≤ 4 := by omega
  have g2 : 0 - u ≤ 4 := by omega
  have g2' : -u ≤ 4 := by omega
  have g2'' : u ≤ 4 := by omega
  have g3 : v ≥ 992 := by omega
  have g4 : v ≤ 1028 := by omega
  have bu : -2 ≤ u ∧ u ≤ 2 := hu
  have bv : -100 ≤ v ∧ v ≤ 2000000 := by omega
  clear h4 h5 hu
  go_enter Try.func10, Try.ntmps10
  go_wp2_with fail
  refine (awake_any _).mono ?_
  rintro e w1 ⟨rfl, hb⟩
  have B := thn (below_alloc1 w _) hb
  have T := (c2_new w (.int .i64 a) (.int .i64 b) 23).next hb
  clear hb
  obtain ⟨t'0, t'1, t'2, t'3, t'l⟩ := id T
  go_wp2_with fail
  clear t'0 t'1 t'2 t'3 t'l
  refine (along_any _ _ _ _ _).mono ?_
  rintro e w2 ⟨rfl, hb⟩
  rw [HA.out]
  replace B := alc (thn B hb) (.cells #[.int .i64 c, .int .i64 d] 23)
  replace T := (T.next hb).alc (.cells #[.int .i64 c, .int .i64 d] 23)
  have Q := c2_new w2 (.int .i64 c) (.int .i64 d) 23
  clear hb
  obtain ⟨t'0, t'1, t'2, t'3, t'l⟩ := id T
  go_wp2_with fail
  clear t'0 t'1 t'2 t'3 t'l
  generalize w2.alloc (.cells #[.int .i64 c, .int .i64 d] 23) = vw2 at *
  generalize w2.heap.size = bw2 at *
  obtain ⟨t'0, t'1, t'2, t'3, t'l⟩ := id T
  obtain ⟨q'0, q'1, q'2, q'3, q'l⟩ := id Q
  go_wp2_with fail
  clear t'0 t'1 t'2 t'3 t'l q'0 q'1 q'2 q'3 q'l
  refine (to_any _ _ _ _ _).mono ?_
  rintro e w3 ⟨rfl, hb⟩
  rw [HT.out]
  replace B := alc (thn B hb) (.cells #[.int .i64 u, .int .i64 v] 25)
  replace T := (T.next hb).alc (.cells #[.int .i64 u, .int .i64 v] 25)
  replace Q := (Q.next hb).alc (.cells #[.int .i64 u, .int .i64 v] 25)
  have X := c2_new w3 (.int .i64 u) (.int .i64 v) 25
  clear hb
  obtain ⟨x'0, x'1, x'2, x'3, x'l⟩ := id X
  go_wp2
  go_ret
  exact ⟨rfl, B⟩
set_option maxHeartbeats 4000000 in
theorem mer_a1 (a b s : Int) (w : World) (hs : -9223372036854775808 ≤ s ∧ s ≤ 9223372036854775807) (h0 : ¬ s < 0) (h1 : s > 1000000) (ha : alv a b 0 1000 = (0, 0, 1)) (ht : tov a b 0 0 = (0, 0, 1)) :
    Calls Try.prog 10 #[posV a b, .int .i64 s] w fun e w' => e = .returned (.bool true) ∧ Below w.heap.size w w' := by
  have HA := Lib.hid ha
  clear ha
  have HT := Lib.hid ht
  clear ht
  go_enter Try.func10, Try.ntmps10
  go_wp2_with fail
  refine (awake_any _).mono ?_
  rintro e w1 ⟨rfl, hb⟩
  have B := thn (below_alloc1 w _) hb
  have T := (c2_new w (.int .i64 a) (.int .i64 b) 23).next hb
  clear hb
  obtain ⟨t'0, t'1, t'2, t'3, t'l⟩ := id T
  go_wp2_with fail
  clear t'0 t'1 t'2 t'3 t'l
  refine (along_any _ _ _ _ _).mono ?_
  rintro e w2 ⟨rfl, hb⟩
  rw [HA.out]
  replace B := alc (thn B hb) (.cells #[.int .i64 0, .int .i64 0] 23)
  replace T := (T.next hb).alc (.cells #[.int .i64 0, .int .i64 0] 23)
  have Q := c2_new w2 (.int .i64 0) (.int .i64 0) 23
  clear hb
  obtain ⟨t'0, t'1, t'2, t'3, t'l⟩ := id T
  go_wp2_with fail
  clear t'0 t'1 t'2 t'3 t'l
  generalize w2.alloc (.cells #[.int .i64 0, .int .i64 0] 23) = vw2 at *
  generalize w2.heap.size = bw2 at *
  obtain ⟨t'0, t'1, t'2, t'3, t'l⟩ := id T
  obtain ⟨q'0, q'1, q'2, q'3, q'l⟩ := id Q
  go_wp2_with fail
  clear t'0 t'1 t'2 t'3 t'l q'0 q'1 q'2 q'3 q'l
  refine (to_any _ _ _ _ _).mono ?_
  rintro e w3 ⟨rfl, hb⟩
  rw [HT.out]
  replace B := alc (thn B hb) (.cells #[.int .i64 0, .int .i64 0] 25)
  replace T := (T.next hb).alc (.cells #[.int .i64 0, .int .i64 0] 25)
  replace Q := (Q.next hb).alc (.cells #[.int .i64 0, .int .i64 0] 25)
  have X := c2_new w3 (.int .i64 0) (.int .i64 0) 25
  clear hb
  obtain ⟨x'0, x'1, x'2, x'3, x'l⟩ := id X
  go_wp2
  go_ret
  exact ⟨rfl, B⟩
set_option maxHeartbeats 4000000 in
theorem mer_b1 (a b s : Int) (w : World) (hs : -9223372036854775808 ≤ s ∧ s ≤ 9223372036854775807) (h0 : ¬ s < 0) (h1 : s > 1000000) (c d : Int) (ha : alv a b 0 1000 = (c, d, 0)) (ht : tov a b c d = (0, 0, 1)) :
    Calls Try.prog 10 #[posV a b, .int .i64 s] w fun e w' => e = .returned (.bool true) ∧ Below w.heap.size w w' := by
  have HA := Lib.hid ha
  clear ha
  have HT := Lib.hid ht
  clear ht
  go_enter Try.func10, Try.ntmps10
  go_wp2_with fail
  refine (awake_any _).mono ?_
  rintro e w1 ⟨rfl, hb⟩
  have B := thn (below_alloc1 w _) hb
  have T := (c2_new w (.int .i64 a) (.int .i64 b) 23).next hb
  clear hb
  obtain ⟨t'0, t'1, t'2, t'3, t'l⟩ := id T
  go_wp2_with fail
  clear t'0 t'1 t'2 t'3 t'l
  refine (along_any _ _ _ _ _).mono ?_
  rintro e w2 ⟨rfl, hb⟩
  rw [HA.out]
  replace B := alc (thn B hb) (.cells #[.int .i64 c, .int .i64 d] 23)
  replace T := (T.next hb).alc (.cells #[.int .i64 c, .int .i64 d] 23)
  have Q := c2_new w2 (.int .i64 c) (.int .i64 d) 23
  clear hb
  obtain ⟨t'0, t'1, t'2, t'3, t'l⟩ := id T
  go_wp2_with fail
  clear t'0 t'1 t'2 t'3 t'l
  generalize w2.alloc (.cells #[.int .i64 c, .int .i64 d] 23) = vw2 at *
  generalize w2.heap.size = bw2 at *
  obtain ⟨t'0, t'1, t'2, t'3, t'l⟩ := id T
  obtain ⟨q'0, q'1, q'2, q'3, q'l⟩ := id Q
  go_wp2_with fail
  clear t'0 t'1 t'2 t'3 t'l q'0 q'1 q'2 q'3 q'l
  refine (to_any _ _ _ _ _).mono ?_
  rintro e w3 ⟨rfl, hb⟩
  rw [HT.out]
  replace B := alc (thn B hb) (.cells #[.int .i64 0, .int .i64 0] 25)
  replace T := (T.next hb).alc (.cells #[.int .i64 0, .int .i64 0] 25)
  replace Q := (Q.next hb).alc (.cells #[.int .i64 0, .int .i64 0] 25)
  have X := c2_new w3 (.int .i64 0) (.int .i64 0) 25
  clear hb
  obtain ⟨x'0, x'1, x'2, x'3, x'l⟩ := id X
  go_wp2
  go_ret
  exact ⟨rfl, B⟩
set_option maxHeartbeats 4000000 in
theorem mer_c1 (a b s : Int) (w : World) (hs : -9223372036854775808 ≤ s ∧ s ≤ 9223372036854775807) (h0 : ¬ s < 0) (h1 : s > 1000000) (c d u v : Int) (ha : alv a b 0 1000 = (c, d, 0)) (ht : tov a b c d = (u, v, 0)) (hu : -2 ≤ u ∧ u ≤ 2) (h4 : v ≥ 1000 - 8) (h5 : v ≤ 1000 * 49 / 48 + 8) :
    Calls Try.prog 10 #[posV a b, .int .i64 s] w fun e w' => e = .returned (.bool true) ∧ Below w.heap.size w w' := by
  have HA := Lib.hid ha
  clear ha
  have HT := Lib.hid ht
  clear ht
  have g1 : u - 0 ≤ 4 := by omega
  have g2 : 0 - u ≤ 4 := by omega
  have g2' : -u ≤ 4 := by omega
  have g2'' : u ≤ 4 := by omega
  have g3 : v ≥ 992 := by omega
  have g4 : v ≤ 1028 := by omega
  have bu : -2 ≤ u ∧ u ≤ 2 := hu
  have bv : -100 ≤ v ∧ v ≤ 2000000 := by omega
  clear h4 h5 hu
  go_enter Try.func10, Try.ntmps10
  go_wp2_with fail
  refine (awake_any _).mono ?_
  rintro e w1 ⟨rfl, hb⟩
  have B := thn (below_alloc1 w _) hb
  have T := (c2_new w (.int .i64 a) (.int .i64 b) 23).next hb
  clear hb
  obtain ⟨t'0, t'1, t'2, t'3, t'l⟩ := id T
  go_wp2_with fail
  clear t'0 t'1 t'2 t'3 t'l
  refine (along_any _ _ _ _ _).mono ?_
  rintro e w2 ⟨rfl, hb⟩
  rw [HA.out]
  replace B := alc (thn B hb) (.cells #[.int .i64 c, .int .i64 d] 23)
  replace T := (T.next hb).alc (.cells #[.int .i64 c, .int .i64 d] 23)
  have Q := c2_new w2 (.int .i64 c) (.int .i64 d) 23
  clear hb
  obtain ⟨t'0, t'1, t'2, t'3, t'l⟩ := id T
  go_wp2_with fail
  clear t'0 t'1 t'2 t'3 t'l
  generalize w2.alloc (.cells #[.int .i64 c, .int .i64 d] 23) = vw2 at *
  generalize w2.heap.size = bw2 at *
  obtain ⟨t'0, t'1, t'2, t'3, t'l⟩ := id T
  obtain ⟨q'0, q'1, q'2, q'3, q'l⟩ := id Q
  go_wp2_with fail
  clear t'0 t'1 t'2 t'3 t'l q'0 q'1 q'2 q'3 q'l
  refine (to_any _ _ _ _ _).mono ?_
  rintro e w3 ⟨rfl, hb⟩
  rw [HT.out]
  replace B := alc (thn B hb) (.cells #[.int .i64 u, .int .i64 v] 25)
  replace T := (T.next hb).alc (.cells #[.int .i64 u, .int .i64 v] 25)
  replace Q := (Q.next hb).alc (.cells #[.int .i64 u, .int .i64 v] 25)
  have X := c2_new w3 (.int .i64 u) (.int .i64 v) 25
  clear hb
  obtain ⟨x'0, x'1, x'2, x'3, x'l⟩ := id X
  go_wp2
  go_ret
  exact ⟨rfl, B⟩
set_option maxHeartbeats 4000000 in
theorem mer_a2 (a b s : Int) (w : World) (hs : -9223372036854775808 ≤ s ∧ s ≤ 9223372036854775807) (h0 : ¬ s < 0) (h1 : ¬ s > 1000000) (ha : alv a b 0 s = (0, 0, 1)) (ht : tov a b 0 0 = (0, 0, 1)) :
    Calls Try.prog 10 #[posV a b, .int .i64 s] w fun e w' => e = .returned (.bool true) ∧ Below w.heap.size w w' := by
  have HA := Lib.hid ha
  clear ha
  have HT := Lib.hid ht
  clear ht
  go_enter Try.func10, Try.ntmps10
  go_wp2_with fail
  refine (awake_any _).mono ?_
  rintro e w1 ⟨rfl, hb⟩
  have B := thn (below_alloc1 w _) hb
  have T := (c2_new w (.int .i64 a) (.int .i64 b) 23).next hb
  clear hb
  obtain ⟨t'0, t'1, t'2, t'3, t'l⟩ := id T
  go_wp2_with fail
  clear t'0 t'1 t'2 t'3 t'l
  refine (along_any _ _ _ _ _).mono ?_
  rintro e w2 ⟨rfl, hb⟩
  rw [HA.out]
  replace B := alc (thn B hb) (.cells #[.int .i64 0, .int .i64 0] 23)
  replace T := (T.next hb).alc (.cells #[.int .i64 0, .int .i64 0] 23)
  have Q := c2_new w2 (.int .i64 0) (.int .i64 0) 23
  clear hb
  obtain ⟨t'0, t'1, t'2, t'3, t'l⟩ := id T
  go_wp2_with fail
  clear t'0 t'1 t'2 t'3 t'l
  generalize w2.alloc (.cells #[.int .i64 0, .int .i64 0] 23) = vw2 at *
  generalize w2.heap.size = bw2 at *
  obtain ⟨t'0, t'1, t'2, t'3, t'l⟩ := id T
  obtain ⟨q'0, q'1, q'2, q'3, q'l⟩ := id Q
  go_wp2_with fail
  clear t'0 t'1 t'2 t'3 t'l q'0 q'1 q'2 q'3 q'l
  refine (to_any _ _ _ _ _).mono ?_
  rintro e w3 ⟨rfl, hb⟩
  rw [HT.out]
  replace B := alc (thn B hb) (.cells #[.int .i64 0, .int .i64 0] 25)
  replace T := (T.next hb).alc (.cells #[.int .i64 0, .int .i64 0] 25)
  replace Q := (Q.next hb).alc (.cells #[.int .i64 0, .int .i64 0] 25)
  have X := c2_new w3 (.int .i64 0) (.int .i64 0) 25
  clear hb
  obtain ⟨x'0, x'1, x'2, x'3, x'l⟩ := id X
  go_wp2
  go_ret
  exact ⟨rfl, B⟩
set_option maxHeartbeats 4000000 in
theorem mer_b2 (a b s : Int) (w : World) (hs : -9223372036854775808 ≤ s ∧ s ≤ 9223372036854775807) (h0 : ¬ s < 0) (h1 : ¬ s > 1000000) (c d : Int) (ha : alv a b 0 s = (c, d, 0)) (ht : tov a b c d = (0, 0, 1)) :
    Calls Try.prog 10 #[posV a b, .int .i64 s] w fun e w' => e = .returned (.bool true) ∧ Below w.heap.size w w' := by
  have HA := Lib.hid ha
  clear ha
  have HT := Lib.hid ht
  clear ht
  go_enter Try.func10, Try.ntmps10
  go_wp2_with fail
  refine (awake_any _).mono ?_
  rintro e w1 ⟨rfl, hb⟩
  have B := thn (below_alloc1 w _) hb
  have T := (c2_new w (.int .i64 a) (.int .i64 b) 23).next hb
  clear hb
  obtain ⟨t'0, t'1, t'2, t'3, t'l⟩ := id T
  go_wp2_with fail
  clear t'0 t'1 t'2 t'3 t'l
  refine (along_any _ _ _ _ _).mono ?_
  rintro e w2 ⟨rfl, hb⟩
  rw [HA.out]
  replace B := alc (thn B hb) (.cells #[.int .i64 c, .int .i64 d] 23)
  replace T := (T.next hb).alc (.cells #[.int .i64 c, .int .i64 d] 23)
  have Q := c2_new w2 (.int .i64 c) (.int .i64 d) 23
  clear hb
  obtain ⟨t'0, t'1, t'2, t'3, t'l⟩ := id T
  go_wp2_with fail
  clear t'0 t'1 t'2 t'3 t'l
  generalize w2.alloc (.cells #[.int .i64 c, .int .i64 d] 23) = vw2 at *
  generalize w2.heap.size = bw2 at *
  obtain ⟨t'0, t'1, t'2, t'3, t'l⟩ := id T
  obtain ⟨q'0, q'1, q'2, q'3, q'l⟩ := id Q
  go_wp2_with fail
  clear t'0 t'1 t'2 t'3 t'l q'0 q'1 q'2 q'3 q'l
  refine (to_any _ _ _ _ _).mono ?_
  rintro e w3 ⟨rfl, hb⟩
  rw [HT.out]
  replace B := alc (thn B hb) (.cells #[.int .i64 0, .int .i64 0] 25)
  replace T := (T.next hb).alc (.cells #[.int .i64 0, .int .i64 0] 25)
  replace Q := (Q.next hb).alc (.cells #[.int .i64 0, .int .i64 0] 25)
  have X := c2_new w3 (.int .i64 0) (.int .i64 0) 25
  clear hb
  obtain ⟨x'0, x'1, x'2, x'3, x'l⟩ := id X
  go_wp2
  go_ret
  exact ⟨rfl, B⟩
set_option maxHeartbeats 4000000 in
theorem mer_c2 (a b s : Int) (w : World) (hs : -9223372036854775808 ≤ s ∧ s ≤ 9223372036854775807) (h0 : ¬ s < 0) (h1 : ¬ s > 1000000) (c d u v : Int) (ha : alv a b 0 s = (c, d, 0)) (ht : tov a b c d = (u, v, 0)) (hu : -2 ≤ u ∧ u ≤ 2) (h4 : v ≥ s - 8) (h5 : v ≤ s * 49 / 48 + 8) :
    Calls Try.prog 10 #[posV a b, .int .i64 s] w fun e w' => e = .returned (.bool true) ∧ Below w.heap.size w w' := by
  have HA := Lib.hid ha
  clear ha
  have HT := Lib.hid ht
  clear ht
  have g1 : u - 0 ≤ 4 := by omega
  have g2 : 0 - u ≤ 4 := by omega
  have g2' : -u ≤ 4 := by omega
  have g2'' : u ≤ 4 := by omega
  have e1 : IntKind.i64.wrap (s * 49) = s * 49 := IntWalk.i64_in _ (by omega)
  have e2 : (s * 49).tdiv 48 = s * 49 / 48 := Int.tdiv_eq_ediv_of_nonneg (by omega)
  have e3 : IntKind.i64.wrap (s * 49 / 48) = s * 49 / 48 := IntWalk.i64_in _ (by omega)
  have e4 : IntKind.i64.wrap (s * 49 / 48 + 4) = s * 49 / 48 + 4 := IntWalk.i64_in _ (by omega)
  have e5 : IntKind.i64.wrap (s * 49 / 48 + 4 + 4) = s * 49 / 48 + 4 + 4 := IntWalk.i64_in _ (by omega)
  have e6 : IntKind.i64.wrap (s - 4) = s - 4 := IntWalk.i64_in _ (by omega)
  have e7 : IntKind.i64.wrap (s - 4 - 4) = s - 4 - 4 := IntWalk.i64_in _ (by omega)
  have g3 : v ≥ s - 4 - 4 := by omega
  have g4 : v ≤ s * 49 / 48 + 4 + 4 := by omega
  have bu : -2 ≤ u ∧ u ≤ 2 := hu
  have bv : -100 ≤ v ∧ v ≤ 2000000 := by omega
  clear h4 h5 hu
  go_enter Try.func10, Try.ntmps10
  go_wp2_with fail
  refine (awake_any _).mono ?_
  rintro e w1 ⟨rfl, hb⟩
  have B := thn (below_alloc1 w _) hb
  have T := (c2_new w (.int .i64 a) (.int .i64 b) 23).next hb
  clear hb
  obtain ⟨t'0, t'1, t'2, t'3, t'l⟩ := id T
  go_wp2_with fail
  clear t'0 t'1 t'2 t'3 t'l
  refine (along_any _ _ _ _ _).mono ?_
  rintro e w2 ⟨rfl, hb⟩
  rw [HA.out]
  replace B := alc (thn B hb) (.cells #[.int .i64 c, .int .i64 d] 23)
  replace T := (T.next hb).alc (.cells #[.int .i64 c, .int .i64 d] 23)
  have Q := c2_new w2 (.int .i64 c) (.int .i64 d) 23
  clear hb
  obtain ⟨t'0, t'1, t'2, t'3, t'l⟩ := id T
  go_wp2_with fail
  clear t'0 t'1 t'2 t'3 t'l
  generalize w2.alloc (.cells #[.int .i64 c, .int .i64 d] 23) = vw2 at *
  generalize w2.heap.size = bw2 at *
  obtain ⟨t'0, t'1, t'2, t'3, t'l⟩ := id T
  obtain ⟨q'0, q'1, q'2, q'3, q'l⟩ := id Q
  go_wp2_with fail
  clear t'0 t'1 t'2 t'3 t'l q'0 q'1 q'2 q'3 q'l
  refine (to_any _ _ _ _ _).mono ?_
  rintro e w3 ⟨rfl, hb⟩
  rw [HT.out]
  replace B := alc (thn B hb) (.cells #[.int .i64 u, .int .i64 v] 25)
  replace T := (T.next hb).alc (.cells #[.int .i64 u, .int .i64 v] 25)
  replace Q := (Q.next hb).alc (.cells #[.int .i64 u, .int .i64 v] 25)
  have X := c2_new w3 (.int .i64 u) (.int .i64 v) 25
  clear hb
  obtain ⟨x'0, x'1, x'2, x'3, x'l⟩ := id X
  go_wp2
  go_ret
  exact ⟨rfl, B⟩
theorem planeBack_walk (a b : Int) (_ : -9223372036854775808 ≤ a ∧ a ≤ 9223372036854775807) (_ : -9223372036854775808 ≤ b ∧ b ≤ 9223372036854775807) (x y : Int) (_ : -9223372036854775808 ≤ x ∧ x ≤ 9223372036854775807) (_ : -9223372036854775808 ≤ y ∧ y ≤ 9223372036854775807) (w : World) :
    Calls Try.prog 4 #[posV a b, ptV x y] w fun e w' => e = .returned (.bool true) ∧ Below w.heap.size w w' := by
  cases ho : org a b
  · exact back_a a b x y w (by unfold frv; rw [ho]; rfl)
  cases hp : pvd x y
  · exact back_b a b x y w (by unfold frv; rw [ho, hp]; rfl)
  · have ⟨p1, p2⟩ := pvd_of hp
    obtain ⟨e, f, hf, _, ⟨u, v, ht, h1, h2⟩ | ⟨ht, h1⟩⟩ := back_plain ho hp
    · exact back_d a b x y e f u v w hf ht p1 p2 h1 h2
    · exact back_c a b x y e f w hf ht p1 p2 (by omega)
theorem planeForth_walk (a b : Int) (_ : -9223372036854775808 ≤ a ∧ a ≤ 9223372036854775807) (_ : -9223372036854775808 ≤ b ∧ b ≤ 9223372036854775807) (c d : Int) (_ : -9223372036854775808 ≤ c ∧ c ≤ 9223372036854775807) (_ : -9223372036854775808 ≤ d ∧ d ≤ 9223372036854775807) (w : World) :
    Calls Try.prog 8 #[posV a b, posV c d] w fun e w' => e = .returned (.bool true) ∧ Below w.heap.size w w' := by
  cases ho : org a b
  · exact forth_a a b c d w (by unfold tov; rw [ho]; rfl)
  cases hw : vd c d
  · exact forth_a a b c d w (by unfold tov; rw [ho, hw]; rfl)
  by_cases hz : lz a b c d ≤ 0
  · exact forth_b a b c d w (by unfold tov; rw [ho, hw, if_pos tt, if_pos hz])
  cases hp : pvd (qnear (20626481 * lx b c d) (lz a b c d)) (qnear (20626481 * ly a b c d) (lz a b c d))
  · exact forth_b a b c d w (by unfold tov; rw [ho, hw, if_pos tt, if_neg hz, hp]; rfl)
  · obtain ⟨e, f, hf, hd, h6⟩ := forth_plain ho hw (by omega) hp
    exact forth_c a b c d _ _ e f _ w (by unfold tov; rw [ho, hw, if_pos tt, if_neg hz, hp]; rfl) hf hd h6
theorem planeMeridian_walk (a b : Int) (_ : -9223372036854775808 ≤ a ∧ a ≤ 9223372036854775807) (_ : -9223372036854775808 ≤ b ∧ b ≤ 9223372036854775807) (s : Int) (hs : -9223372036854775808 ≤ s ∧ s ≤ 9223372036854775807) (w : World) :
    Calls Try.prog 10 #[posV a b, .int .i64 s] w fun e w' => e = .returned (.bool true) ∧ Below w.heap.size w w' := by
  have hno : org a b = false → ∀ c d, tov a b c d = (0, 0, 1) := fun ho c d => by unfold tov; rw [ho]; rfl
  have hin : vd a b = false → ∀ s, alv a b 0 s = (0, 0, 1) := fun hv s => by unfold alv; rw [if_neg (by rw [hv]; decide)]
  by_cases h0 : s < 0
  · cases hv : vd a b
    · exact mer_a0 a b s w hs h0 (hin hv 1000) (hno (by unfold org; rw [hv]; rfl) 0 0)
    cases ho : org a b
    · obtain ⟨c, d, ha, _⟩ := near_along a b 0 1000 hv (by omega)
      exact mer_b0 a b s w hs h0 c d ha (hno ho c d)
    · obtain ⟨c, d, u, v, ha, ht, hu, h4, h5⟩ := meridian_plain (s := 1000) ho (by omega) (by omega)
      exact mer_c0 a b s w hs h0 c d u v ha ht hu h4 h5
  by_cases h1 : s > 1000000
  · cases hv : vd a b
    · exact mer_a1 a b s w hs h0 h1 (hin hv 1000) (hno (by unfold org; rw [hv]; rfl) 0 0)
    cases ho : org a b
    · obtain ⟨c, d, ha, _⟩ := near_along a b 0 1000 hv (by omega)
      exact mer_b1 a b s w hs h0 h1 c d ha (hno ho c d)
    · obtain ⟨c, d, u, v, ha, ht, hu, h4, h5⟩ := meridian_plain (s := 1000) ho (by omega) (by omega)
      exact mer_c1 a b s w hs h0 h1 c d u v ha ht hu h4 h5
  · cases hv : vd a b
    · exact mer_a2 a b s w hs h0 h1 (hin hv s) (hno (by unfold org; rw [hv]; rfl) 0 0)
    cases ho : org a b
    · obtain ⟨c, d, ha, _⟩ := near_along a b 0 s hv (by omega)
      exact mer_b2 a b s w hs h0 h1 c d ha (hno ho c d)
    · obtain ⟨c, d, u, v, ha, ht, hu, h4, h5⟩ := meridian_plain (s := s) ho (by omega) (by omega)
      exact mer_c2 a b s w hs h0 h1 c d u v ha ht hu h4 h5
end Go.Proofs.Ytmlacekgmdlfjaa
