/- The law of chapter 10 on distances in the plane: the walk. -/
import Derived.Test.YtmlacekgmdlfjaaPlnK
import Derived.Test.YtmlacekgmdlfjaaAwake10
namespace Go.Proofs.Ytmlacekgmdlfjaa
open Go.RowKit Go.Joins Fdk
set_option linter.unusedVariables false
set_option maxRecDepth 4000 in
set_option maxHeartbeats 8000000 in
theorem psc_a (a b x y p q c d r : Int) (w : World) (hf : frv a b x y = (0, 0, 2)) (hg : frv a b p q = (c, d, r)) :
    Calls Try.prog 9 #[posV a b, ptV x y, ptV p q] w fun e w' => e = .returned (.bool true) ∧ Below w.heap.size w w' := by
  have HF := Lib.hid hf
  clear hf
  have HG := Lib.hid hg
  clear hg
  go_enter Try.func9, Try.ntmps9
  go_wp2_with fail
  refine (awake_any _).mono ?_
  rintro e w1 ⟨rfl, hb⟩
  have B := thn (below_alloc3 w _ _ _) hb
  have T := (((c2_new w (.int .i64 a) (.int .i64 b) 23).alc _).alc _).next hb
  have U := ((c2_new _ (.int .i64 x) (.int .i64 y) 25).alc _).next hb
  have V := (c2_new _ (.int .i64 p) (.int .i64 q) 25).next hb
  simp only [World.alloc, Array.size_push] at U V
  clear hb
  obtain ⟨t'0, t'1, t'2, t'3, t'l⟩ := id T
  obtain ⟨u'0, u'1, u'2, u'3, u'l⟩ := id U
  go_wp2_with fail
  clear t'0 t'1 t'2 t'3 t'l u'0 u'1 u'2 u'3 u'l
  refine (from_any _ _ _ _ _).mono ?_
  rintro e w2 ⟨rfl, hb⟩
  rw [HF.out]
  replace B := alc (thn B hb) (.cells #[.int .i64 0, .int .i64 0] 23)
  replace V := (V.next hb).alc (.cells #[.int .i64 0, .int .i64 0] 23)
  replace T := (T.next hb).alc (.cells #[.int .i64 0, .int .i64 0] 23)
  replace U := (U.next hb).alc (.cells #[.int .i64 0, .int .i64 0] 23)
  have Q := c2_new w2 (.int .i64 0) (.int .i64 0) 23
  clear hb
  obtain ⟨t'0, t'1, t'2, t'3, t'l⟩ := id T
  obtain ⟨v'0, v'1, v'2, v'3, v'l⟩ := id V
  go_wp2_with fail
  clear t'0 t'1 t'2 t'3 t'l v'0 v'1 v'2 v'3 v'l
  generalize w2.alloc (.cells #[.int .i64 0, .int .i64 0] 23) = vw2 at *
  generalize w2.heap.size = bw2 at *
  refine (from_any _ _ _ _ _).mono ?_
  rintro e' w3 ⟨rfl, hb⟩
  rw [HG.out]
  replace B := alc (thn B hb) (.cells #[.int .i64 c, .int .i64 d] 23)
  replace U := (U.next hb).alc (.cells #[.int .i64 c, .int .i64 d] 23)
  replace V := (V.next hb).alc (.cells #[.int .i64 c, .int .i64 d] 23)
  replace Q := (Q.next hb).alc (.cells #[.int .i64 c, .int .i64 d] 23)
  have X := c2_new w3 (.int .i64 c) (.int .i64 d) 23
  clear hb T
  go_wp2
  go_ret
  exact ⟨rfl, B⟩
set_option maxRecDepth 4000 in
set_option maxHeartbeats 8000000 in
theorem psc_b (a b x y p q : Int) (w : World) (hf : frv a b x y = (0, 0, 1)) (hg : frv a b p q = (0, 0, 1)) :
    Calls Try.prog 9 #[posV a b, ptV x y, ptV p q] w fun e w' => e = .returned (.bool true) ∧ Below w.heap.size w w' := by
  have HF := Lib.hid hf
  clear hf
  have HG := Lib.hid hg
  clear hg
  go_enter Try.func9, Try.ntmps9
  go_wp2_with fail
  refine (awake_any _).mono ?_
  rintro e w1 ⟨rfl, hb⟩
  have B := thn (below_alloc3 w _ _ _) hb
  have T := (((c2_new w (.int .i64 a) (.int .i64 b) 23).alc _).alc _).next hb
  have U := ((c2_new _ (.int .i64 x) (.int .i64 y) 25).alc _).next hb
  have V := (c2_new _ (.int .i64 p) (.int .i64 q) 25).next hb
  simp only [World.alloc, Array.size_push] at U V
  clear hb
  obtain ⟨t'0, t'1, t'2, t'3, t'l⟩ := id T
  obtain ⟨u'0, u'1, u'2, u'3, u'l⟩ := id U
  go_wp2_with fail
  clear t'0 t'1 t'2 t'3 t'l u'0 u'1 u'2 u'3 u'l
  refine (from_any _ _ _ _ _).mono ?_
  rintro e w2 ⟨rfl, hb⟩
  rw [HF.out]
  replace B := alc (thn B hb) (.cells #[.int .i64 0, .int .i64 0] 23)
  replace V := (V.next hb).alc (.cells #[.int .i64 0, .int .i64 0] 23)
  replace T := (T.next hb).alc (.cells #[.int .i64 0, .int .i64 0] 23)
  replace U := (U.next hb).alc (.cells #[.int .i64 0, .int .i64 0] 23)
  have Q := c2_new w2 (.int .i64 0) (.int .i64 0) 23
  clear hb
  obtain ⟨t'0, t'1, t'2, t'3, t'l⟩ := id T
  obtain ⟨v'0, v'1, v'2, v'3, v'l⟩ := id V
  go_wp2_with fail
  clear t'0 t'1 t'2 t'3 t'l v'0 v'1 v'2 v'3 v'l
  generalize w2.alloc (.cells #[.int .i64 0, .int .i64 0] 23) = vw2 at *
  generalize w2.heap.size = bw2 at *
  refine (from_any _ _ _ _ _).mono ?_
  rintro e' w3 ⟨rfl, hb⟩
  rw [HG.out]
  replace B := alc (thn B hb) (.cells #[.int .i64 0, .int .i64 0] 23)
  replace U := (U.next hb).alc (.cells #[.int .i64 0, .int .i64 0] 23)
  replace V := (V.next hb).alc (.cells #[.int .i64 0, .int .i64 0] 23)
  replace Q := (Q.next hb).alc (.cells #[.int .i64 0, .int .i64 0] 23)
  have X := c2_new w3 (.int .i64 0) (.int .i64 0) 23
  clear hb T
  go_wp2
  go_ret
  exact ⟨rfl, B⟩
set_option maxRecDepth 4000 in
set_option maxHeartbeats 8000000 in
theorem psc_c (a b x y p q c d : Int) (w : World) (hf : frv a b x y = (c, d, 0)) (hg : frv a b p q = (0, 0, 2)) :
    Calls Try.prog 9 #[posV a b, ptV x y, ptV p q] w fun e w' => e = .returned (.bool true) ∧ Below w.heap.size w w' := by
  have HF := Lib.hid hf
  clear hf
  have HG := Lib.hid hg
  clear hg
  go_enter Try.func9, Try.ntmps9
  go_wp2_with fail
  refine (awake_any _).mono ?_
  rintro e w1 ⟨rfl, hb⟩
  have B := thn (below_alloc3 w _ _ _) hb
  have T := (((c2_new w (.int .i64 a) (.int .i64 b) 23).alc _).alc _).next hb
  have U := ((c2_new _ (.int .i64 x) (.int .i64 y) 25).alc _).next hb
  have V := (c2_new _ (.int .i64 p) (.int .i64 q) 25).next hb
  simp only [World.alloc, Array.size_push] at U V
  clear hb
  obtain ⟨t'0, t'1, t'2, t'3, t'l⟩ := id T
  obtain ⟨u'0, u'1, u'2, u'3, u'l⟩ := id U
  go_wp2_with fail
  clear t'0 t'1 t'2 t'3 t'l u'0 u'1 u'2 u'3 u'l
  refine (from_any _ _ _ _ _).mono ?_
  rintro e w2 ⟨rfl, hb⟩
  rw [HF.out]
  replace B := alc (thn B hb) (.cells #[.int .i64 c, .int .i64 d] 23)
  replace V := (V.next hb).alc (.cells #[.int .i64 c, .int .i64 d] 23)
  replace T := (T.next hb).alc (.cells #[.int .i64 c, .int .i64 d] 23)
  replace U := (U.next hb).alc (.cells #[.int .i64 c, .int .i64 d] 23)
  have Q := c2_new w2 (.int .i64 c) (.int .i64 d) 23
  clear hb
  obtain ⟨t'0, t'1, t'2, t'3, t'l⟩ := id T
  obtain ⟨v'0, v'1, v'2, v'3, v'l⟩ := id V
  go_wp2_with fail
  clear t'0 t'1 t'2 t'3 t'l v'0 v'1 v'2 v'3 v'l
  generalize w2.alloc (.cells #[.int .i64 c, .int .i64 d] 23) = vw2 at *
  generalize w2.heap.size = bw2 at *
  refine (from_any _ _ _ _ _).mono ?_
  rintro e' w3 ⟨rfl, hb⟩
  rw [HG.out]
  replace B := alc (thn B hb) (.cells #[.int .i64 0, .int .i64 0] 23)
  replace U := (U.next hb).alc (.cells #[.int .i64 0, .int .i64 0] 23)
  replace V := (V.next hb).alc (.cells #[.int .i64 0, .int .i64 0] 23)
  replace Q := (Q.next hb).alc (.cells #[.int .i64 0, .int .i64 0] 23)
  have X := c2_new w3 (.int .i64 0) (.int .i64 0) 23
  clear hb T
  go_wp2
  go_ret
  exact ⟨rfl, B⟩
set_option maxRecDepth 4000 in
set_option maxHeartbeats 8000000 in
theorem psc_d (a b x y p q c d e f D h : Int) (w : World) (hf : frv a b x y = (c, d, 0)) (hg : frv a b p q = (e, f, 0)) (hd : dstv c d e f = (D, 0)) (hh : hy (x - p) (y - q) = (h, 0)) (bx : -2000000 ≤ x ∧ x ≤ 2000000) (bY : -2000000 ≤ y ∧ y ≤ 2000000) (bp : -2000000 ≤ p ∧ p ≤ 2000000) (bq : -2000000 ≤ q ∧ q ≤ 2000000) (D0 : 0 ≤ D ∧ D ≤ 64800000) (h0 : 0 ≤ h ∧ h ≤ 5656854) (l1 : D ≤ h + 12) (l2 : h ≤ D * 49 / 48 + 12) :
    Calls Try.prog 9 #[posV a b, ptV x y, ptV p q] w fun e w' => e = .returned (.bool true) ∧ Below w.heap.size w w' := by
  have HF := Lib.hid hf
  clear hf
  have HG := Lib.hid hg
  clear hg
  have HD := Lib.hid hd
  clear hd
  have HH := Lib.hid hh
  clear hh
  have s1 : IntKind.i64.wrap (x - p) = x - p := IntWalk.i64_in _ (by omega)
  have s2 : IntKind.i64.wrap (y - q) = y - q := IntWalk.i64_in _ (by omega)
  go_enter Try.func9, Try.ntmps9
  go_wp2_with fail
  refine (awake_any _).mono ?_
  rintro e w1 ⟨rfl, hb⟩
  have B := thn (below_alloc3 w _ _ _) hb
  have T := (((c2_new w (.int .i64 a) (.int .i64 b) 23).alc _).alc _).next hb
  have U := ((c2_new _ (.int .i64 x) (.int .i64 y) 25).alc _).next hb
  have V := (c2_new _ (.int .i64 p) (.int .i64 q) 25).next hb
  simp only [World.alloc, Array.size_push] at U V
  clear hb
  obtain ⟨t'0, t'1, t'2, t'3, t'l⟩ := id T
  obtain ⟨u'0, u'1, u'2, u'3, u'l⟩ := id U
  go_wp2_with fail
  clear t'0 t'1 t'2 t'3 t'l u'0 u'1 u'2 u'3 u'l
  refine (from_any _ _ _ _ _).mono ?_
  rintro e w2 ⟨rfl, hb⟩
  rw [HF.out]
  replace B := alc (thn B hb) (.cells #[.int .i64 c, .int .i64 d] 23)
  replace V := (V.next hb).alc (.cells #[.int .i64 c, .int .i64 d] 23)
  replace T := (T.next hb).alc (.cells #[.int .i64 c, .int .i64 d] 23)
  replace U := (U.next hb).alc (.cells #[.int .i64 c, .int .i64 d] 23)
  have Q := c2_new w2 (.int .i64 c) (.int .i64 d) 23
  clear hb
  obtain ⟨t'0, t'1, t'2, t'3, t'l⟩ := id T
  obtain ⟨v'0, v'1, v'2, v'3, v'l⟩ := id V
  go_wp2_with fail
  clear t'0 t'1 t'2 t'3 t'l v'0 v'1 v'2 v'3 v'l
  generalize w2.alloc (.cells #[.int .i64 c, .int .i64 d] 23) = vw2 at *
  generalize w2.heap.size = bw2 at *
  refine (from_any _ _ _ _ _).mono ?_
  rintro e' w3 ⟨rfl, hb⟩
  rw [HG.out]
  replace B := alc (thn B hb) (.cells #[.int .i64 e, .int .i64 f] 23)
  replace U := (U.next hb).alc (.cells #[.int .i64 e, .int .i64 f] 23)
  replace V := (V.next hb).alc (.cells #[.int .i64 e, .int .i64 f] 23)
  replace Q := (Q.next hb).alc (.cells #[.int .i64 e, .int .i64 f] 23)
  have X := c2_new w3 (.int .i64 e) (.int .i64 f) 23
  clear hb T
  obtain ⟨q0, q1, q2, q3, ql⟩ := id Q
  obtain ⟨x0, x1, x2, x3, xl⟩ := id X
  go_wp2_with fail
  clear q0 q1 q2 q3 ql x0 x1 x2 x3 xl
  generalize w3.alloc (.cells #[.int .i64 e, .int .i64 f] 23) = vw3 at *
  generalize w3.heap.size = bw3 at *
  refine (dist_any _ _ _ _ _).mono ?_
  rintro e' w4 ⟨rfl, hb⟩
  rw [HD.out]
  replace B := thn B hb
  replace U := U.next hb
  replace V := V.next hb
  clear hb Q X
  obtain ⟨u0, u1, u2, u3, ul⟩ := id U
  obtain ⟨v0, v1, v2, v3, vl⟩ := id V
  go_wp2_with fail
  clear u0 u1 u2 u3 ul v0 v1 v2 v3 vl
  refine (hy_any _ _ _).mono ?_
  rintro e' w5 ⟨rfl, rfl⟩
  rw [HH.out]
  clear U V
  have e1 : IntKind.i64.wrap (D * 49) = D * 49 := IntWalk.i64_in _ (by omega)
  have e2 : (D * 49).tdiv 48 = D * 49 / 48 := Int.tdiv_eq_ediv_of_nonneg (by omega)
  have e3 : IntKind.i64.wrap (D * 49 / 48) = D * 49 / 48 := IntWalk.i64_in _ (by omega)
  have e4 : IntKind.i64.wrap (D * 49 / 48 + 12) = D * 49 / 48 + 12 := IntWalk.i64_in _ (by omega)
  have e6 : IntKind.i64.wrap (D - 12) = D - 12 := IntWalk.i64_in _ (by omega)
  have g3 : h ≥ D - 12 := by omega
  go_wp2
  go_ret
  exact ⟨rfl, B⟩
theorem planeScale_walk (a b : Int) (_ : -9223372036854775808 ≤ a ∧ a ≤ 9223372036854775807) (_ : -9223372036854775808 ≤ b ∧ b ≤ 9223372036854775807) (x y : Int) (_ : -9223372036854775808 ≤ x ∧ x ≤ 9223372036854775807) (_ : -9223372036854775808 ≤ y ∧ y ≤ 9223372036854775807) (p q : Int) (_ : -9223372036854775808 ≤ p ∧ p ≤ 9223372036854775807) (_ : -9223372036854775808 ≤ q ∧ q ≤ 9223372036854775807) (w : World) :
    Calls Try.prog 9 #[posV a b, ptV x y, ptV p q] w fun e w' => e = .returned (.bool true) ∧ Below w.heap.size w w' := by
  cases ho : org a b
  · exact psc_b a b x y p q w (by unfold frv; rw [ho]; rfl) (by unfold frv; rw [ho]; rfl)
  cases hp : pvd x y
  · exact psc_a a b x y p q _ _ _ w (by unfold frv; rw [ho, hp]; rfl) rfl
  cases hq : pvd p q
  · obtain ⟨e, f, _, hf, _⟩ := from_near ho hp
    exact psc_c a b x y p q e f w hf (by unfold frv; rw [ho, hq]; rfl)
  · have ⟨p1, p2⟩ := pvd_of hp
    have ⟨q1, q2⟩ := pvd_of hq
    obtain ⟨e, f, g, j, h, hf, hg, hd, hh, bd, bh, l1, l2⟩ := scale_plain ho hp hq
    exact psc_d a b x y p q e f g j _ h w hf hg hd hh p1 p2 q1 q2 bd bh l1 l2
end Go.Proofs.Ytmlacekgmdlfjaa
