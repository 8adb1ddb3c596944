/- The law of chapter 9 on the position halfway: the walk. -/
import Derived.Test.YtgcmmfclnialfaaLaw09j
import Derived.Test.YtgcmmfclnialfaaSphO
import Derived.Test.YtgcmmfclnialfaaAwake09
namespace Go.Proofs.Ytgcmmfclnialfaa
open Go.RowKit Go.Joins Fdk
set_option linter.unusedVariables false
set_option maxHeartbeats 4000000 in
theorem mids_a (a b c d x : Int) (w : World) (hm : midv a b c d = (0, 0, x)) (hx : (x == 0) = false) :
    Calls Try.prog 14 #[posV a b, posV c d] w fun e w' => e = .returned (.bool true) ∧ Below w.heap.size w w' := by
  have HM := Lib.hid hm
  clear hm
  have qx := beq_self_eq_true (x : Int)
  go_enter Try.func14, Try.ntmps14
  go_wp2_with fail
  refine (awake_any _).mono ?_
  rintro e w1 ⟨rfl, hb⟩
  have B := thn (below_alloc2 w _ _) hb
  have T := ((c2_new w (.int .i64 a) (.int .i64 b) 23).alc _).next hb
  have U := (c2_new _ (.int .i64 c) (.int .i64 d) 23).next hb
  simp only [World.alloc, Array.size_push] at U
  clear hb
  obtain ⟨t0, t1, t2, t3, tl⟩ := id T
  obtain ⟨u0, u1, u2, u3, ul⟩ := id U
  go_wp2_with fail
  clear t0 t1 t2 t3 tl u0 u1 u2 u3 ul
  refine (mid_any _ _ _ _ _).mono ?_
  rintro e w2 ⟨rfl, hb⟩
  rw [HM.out]
  replace B := alc (thn B hb) (.cells #[.int .i64 0, .int .i64 0] 23)
  replace T := (T.next hb).alc (.cells #[.int .i64 0, .int .i64 0] 23)
  replace U := (U.next hb).alc (.cells #[.int .i64 0, .int .i64 0] 23)
  have V := c2_new w2 (.int .i64 0) (.int .i64 0) 23
  clear hb
  obtain ⟨t0, t1, t2, t3, tl⟩ := id T
  obtain ⟨u0, u1, u2, u3, ul⟩ := id U
  go_wp2_with fail
  clear t0 t1 t2 t3 tl u0 u1 u2 u3 ul
  generalize w2.alloc (.cells #[.int .i64 0, .int .i64 0] 23) = v2 at *
  generalize w2.heap.size = bv at *
  refine (rmid_any _ _ _ _ _).mono ?_
  rintro e w3 ⟨rfl, hb⟩
  rw [HM.out]
  replace B := alc (thn B hb) (.cells #[.int .i64 0, .int .i64 0] 23)
  replace T := (T.next hb).alc (.cells #[.int .i64 0, .int .i64 0] 23)
  replace U := (U.next hb).alc (.cells #[.int .i64 0, .int .i64 0] 23)
  replace V := (V.next hb).alc (.cells #[.int .i64 0, .int .i64 0] 23)
  have V2 := c2_new w3 (.int .i64 0) (.int .i64 0) 23
  clear hb
  obtain ⟨v0, v1, v2', v3', vl⟩ := id V
  obtain ⟨x0, x1, x2, x3, xl⟩ := id V2
  go_wp2
  go_ret
  exact ⟨rfl, B⟩
set_option maxHeartbeats 4000000 in
theorem mids_b (a b c d e f x y : Int) (w : World) (hm : midv a b c d = (e, f, 0)) (h1 : dstv a b e f = (x, 0)) (h2 : dstv e f c d = (y, 0)) (x0 : 0 ≤ x ∧ x ≤ 64800000) (y0 : 0 ≤ y ∧ y ≤ 64800000) (n1 : -8 ≤ x - y) (n2 : x - y ≤ 8) :
    Calls Try.prog 14 #[posV a b, posV c d] w fun e w' => e = .returned (.bool true) ∧ Below w.heap.size w w' := by
  have HM := Lib.hid hm
  have H1 := Lib.hid h1
  have H2 := Lib.hid h2
  clear hm h1 h2
  have q0 := beq_self_eq_true (e : Int)
  have q1 := beq_self_eq_true (f : Int)
  go_enter Try.func14, Try.ntmps14
  go_wp2_with fail
  refine (awake_any _).mono ?_
  rintro e w1 ⟨rfl, hb⟩
  have B := thn (below_alloc2 w _ _) hb
  have T := ((c2_new w (.int .i64 a) (.int .i64 b) 23).alc _).next hb
  have U := (c2_new _ (.int .i64 c) (.int .i64 d) 23).next hb
  simp only [World.alloc, Array.size_push] at U
  clear hb
  obtain ⟨t0, t1, t2, t3, tl⟩ := id T
  obtain ⟨u0, u1, u2, u3, ul⟩ := id U
  go_wp2_with fail
  clear t0 t1 t2 t3 tl u0 u1 u2 u3 ul
  refine (mid_any _ _ _ _ _).mono ?_
  rintro e w2 ⟨rfl, hb⟩
  rw [HM.out]
  replace B := alc (thn B hb) (.cells #[.int .i64 e, .int .i64 f] 23)
  replace T := (T.next hb).alc (.cells #[.int .i64 e, .int .i64 f] 23)
  replace U := (U.next hb).alc (.cells #[.int .i64 e, .int .i64 f] 23)
  have V := c2_new w2 (.int .i64 e) (.int .i64 f) 23
  clear hb
  obtain ⟨t0, t1, t2, t3, tl⟩ := id T
  obtain ⟨u0, u1, u2, u3, ul⟩ := id U
  go_wp2_with fail
  clear t0 t1 t2 t3 tl u0 u1 u2 u3 ul
  generalize w2.alloc (.cells #[.int .i64 e, .int .i64 f] 23) = v2 at *
  generalize w2.heap.size = bv at *
  refine (rmid_any _ _ _ _ _).mono ?_
  rintro e w3 ⟨rfl, hb⟩
  rw [HM.out]
  replace B := alc (thn B hb) (.cells #[.int .i64 e, .int .i64 f] 23)
  replace T := (T.next hb).alc (.cells #[.int .i64 e, .int .i64 f] 23)
  replace U := (U.next hb).alc (.cells #[.int .i64 e, .int .i64 f] 23)
  replace V := (V.next hb).alc (.cells #[.int .i64 e, .int .i64 f] 23)
  have V2 := c2_new w3 (.int .i64 e) (.int .i64 f) 23
  clear hb
  obtain ⟨t0, t1, t2, t3, tl⟩ := id T
  obtain ⟨u0, u1, u2, u3, ul⟩ := id U
  obtain ⟨v0, v1, v2', v3', vl⟩ := id V
  obtain ⟨x0', x1, x2, x3, xl⟩ := id V2
  go_wp2_with fail
  clear t0 t1 t2 t3 tl u0 u1 u2 u3 ul v0 v1 v2' v3' vl x0' x1 x2 x3 xl
  refine (dist_any _ _ _ _ _).mono ?_
  rintro e w4 ⟨rfl, hb⟩
  rw [H1.out]
  replace B := thn B hb
  replace T := T.next hb
  replace U := U.next hb
  replace V := V.next hb
  clear hb
  obtain ⟨t0, t1, t2, t3, tl⟩ := id T
  obtain ⟨u0, u1, u2, u3, ul⟩ := id U
  obtain ⟨v0, v1, v2', v3', vl⟩ := id V
  go_wp2_with fail
  clear t0 t1 t2 t3 tl u0 u1 u2 u3 ul v0 v1 v2' v3' vl
  refine (dist_any _ _ _ _ _).mono ?_
  rintro e w5 ⟨rfl, hb⟩
  rw [H2.out]
  replace B := thn B hb
  clear hb T U V V2
  have h8 : x - y ≤ 8 := n2
  have h9 : y - x ≤ 8 := by omega
  go_wp2
  go_ret
  exact ⟨rfl, B⟩
theorem sphereMids_walk (a b : Int) (_ : -9223372036854775808 ≤ a ∧ a ≤ 9223372036854775807) (_ : -9223372036854775808 ≤ b ∧ b ≤ 9223372036854775807) (c d : Int) (_ : -9223372036854775808 ≤ c ∧ c ≤ 9223372036854775807) (_ : -9223372036854775808 ≤ d ∧ d ≤ 9223372036854775807) (w : World) :
    Calls Try.prog 14 #[posV a b, posV c d] w fun e w' => e = .returned (.bool true) ∧ Below w.heap.size w w' := by
  cases h1 : vd a b
  · exact mids_a a b c d 1 w (by simp [midv, dstv, h1]) rfl
  cases h2 : vd c d
  · exact mids_a a b c d 1 w (by simp [midv, dstv, h2]) rfl
  by_cases h3 : dv a b c d > 48600000
  · exact mids_a a b c d 10 w (by simp [midv, dstv, h1, h2, h3]) rfl
  · obtain ⟨e, f, hp, hv, n1, n2⟩ := mids_plain h1 h2 (by omega)
    exact mids_b a b c d e f (dv a b e f) (dv e f c d) w (by simp [midv, dstv, h1, h2, h3, hp]) (by simp [dstv, h1, hv]) (by simp [dstv, h2, hv]) (dv_b _ _ _ _) (dv_b _ _ _ _) n1 n2
end Go.Proofs.Ytgcmmfclnialfaa
