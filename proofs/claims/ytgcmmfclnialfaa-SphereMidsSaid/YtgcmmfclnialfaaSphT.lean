/- Package sphere and its reference: distances across and along a great circle. -/
import Derived.Test.YtgcmmfclnialfaaSphN
namespace Go.Proofs.Ytgcmmfclnialfaa
open Go.RowKit Go.Joins Fdk
set_option linter.unusedVariables false
abbrev I3 (c : Int × Int × Int) : Ending := .returned (.tuple #[.int .i64 c.1, .int .i64 c.2.1, .int .i64 c.2.2])
theorem i3 {c d : Int × Int × Int} (h : c = d) : I3 c = I3 d := by rw [h]
def crR (x y t : Int) : Int := rd (x * cn t - y * sn t)
def crA (x y t : Int) : Int := rd (x * sn t + y * cn t)
def cr3 (x y z t : Int) : Int × Int × Int := (adiff 0 (a2 (crR x y t) (hy (crA x y t) z).1).1, adiff 0 (a2 (crA x y t) z).1, 0)
/-- the distances across and along, and the error. -/
def crv (a b t c d : Int) : Int × Int × Int := if vd a b && vd c d then cr3 (lx b c d) (ly a b c d) (lz a b c d) t else (0, 0, 1)
theorem xb {x y : Int} (h0 : -1073741836 ≤ x) (h1 : x ≤ 1073741836) (h2 : -1073741824 ≤ y) (h3 : y ≤ 1073741824) : -1152921517491748864 ≤ x * y ∧ x * y ≤ 1152921517491748864 := by
  have := pb (p := x) (q := y) (A := 1073741836) (B := 1073741824) 1152921517491748864 ⟨h0, h1⟩ ⟨h2, h3⟩ (by omega) (by decide)
  exact this
set_option maxHeartbeats 1600000 in
theorem cross_a (a b t c d : Int) (w : World) (h1 : vd a b = false) :
    Calls Try.prog 31 #[posV a b, .int .i64 t, posV c d] w fun e w' => e = I3 (0, 0, 1) ∧ Below w.heap.size w w' := by
  go_enter Try.func31, Try.ntmps31
  go_wp2_with fail
  refine (valid_any _ _ _).mono ?_
  rintro e w1 ⟨rfl, hb⟩
  have B := thn (below_alloc2 w _ _) hb
  rw [h1]
  go_wp2
  exact bodyPost_ret (v := .tuple #[.int .i64 0, .int .i64 0, .int .i64 1]) (by simp [results, Try.results31, go_sem]) rfl ⟨rfl, B⟩
set_option maxHeartbeats 1600000 in
theorem cross_b (a b t c d : Int) (w : World) (h1 : vd a b = true) (h2 : vd c d = false) :
    Calls Try.prog 31 #[posV a b, .int .i64 t, posV c d] w fun e w' => e = I3 (0, 0, 1) ∧ Below w.heap.size w w' := by
  go_enter Try.func31, Try.ntmps31
  go_wp2_with fail
  refine (valid_any _ _ _).mono ?_
  rintro e w1 ⟨rfl, hb⟩
  have B := thn (below_alloc2 w _ _) hb
  have U := (c2_new _ (.int .i64 c) (.int .i64 d) 23).next hb
  simp only [World.alloc, Array.size_push] at U
  obtain ⟨d0, d1, j0, j1, l1⟩ := id U
  rw [h1]
  go_wp2_with fail
  refine (valid_any _ _ _).mono ?_
  rintro e w2 ⟨rfl, hb2⟩
  replace B := thn B hb2
  clear d0 d1 j0 j1 l1 U
  rw [h2]
  go_wp2
  exact bodyPost_ret (v := .tuple #[.int .i64 0, .int .i64 0, .int .i64 1]) (by simp [results, Try.results31, go_sem]) rfl ⟨rfl, B⟩
set_option maxHeartbeats 4000000 in
theorem cross_c (a b t c d : Int) (w : World) (h1 : vd a b = true) (h2 : vd c d = true) :
    Calls Try.prog 31 #[posV a b, .int .i64 t, posV c d] w fun e w' => e = I3 (cr3 (lx b c d) (ly a b c d) (lz a b c d) t) ∧ Below w.heap.size w w' := by
  obtain ⟨⟨x0, x1⟩, ⟨y0, y1⟩, zz⟩ := lxy_b a b c d
  go_enter Try.func31, Try.ntmps31
  go_wp2_with fail
  refine (valid_any _ _ _).mono ?_
  rintro e w1 ⟨rfl, hb⟩
  have B := thn (below_alloc2 w _ _) hb
  have T := ((c2_new w (.int .i64 a) (.int .i64 b) 23).alc _).next hb
  have U := (c2_new _ (.int .i64 c) (.int .i64 d) 23).next hb
  simp only [World.alloc, Array.size_push] at U
  obtain ⟨d0, d1, j0, j1, l1⟩ := id U
  rw [h1]
  go_wp2_with fail
  refine (valid_any _ _ _).mono ?_
  rintro e w2 ⟨rfl, hb2⟩
  replace B := thn B hb2
  replace T := T.next hb2
  replace U := U.next hb2
  clear d0 d1 j0 j1 l1 hb hb2
  obtain ⟨d0, d1, j0, j1, l1⟩ := id U
  obtain ⟨t0, t1, t2, t3, tl⟩ := id T
  rw [h2]
  go_wp2_with fail
  refine (local_any _ _ _ _ _).mono ?_
  rintro e w3 ⟨rfl, hb3⟩
  replace B := thn B hb3
  clear d0 d1 j0 j1 l1 t0 t1 t2 t3 tl T U hb3
  generalize hX : lx b c d = X at *
  have HX := Lib.hid hX
  clear hX
  generalize hY : ly a b c d = Y at *
  have HY := Lib.hid hY
  clear hY
  generalize hZ : lz a b c d = Z at *
  have HZ := Lib.hid hZ
  clear hZ
  have Q := c3_new w3 (.int .i64 X) (.int .i64 Y) (.int .i64 Z) 26
  replace B := Lib.hid (alc B (.cells #[.int .i64 X, .int .i64 Y, .int .i64 Z] 26))
  have bST := sn_b t
  have bCT := cn_b t
  have ⟨p0, p1⟩ := xb x0 x1 bCT.1 bCT.2
  have ⟨p2, p3⟩ := xb y0 y1 bST.1 bST.2
  have ⟨p4, p5⟩ := xb x0 x1 bST.1 bST.2
  have ⟨p6, p7⟩ := xb y0 y1 bCT.1 bCT.2
  have e1 : IntKind.i64.wrap (X * cn t) = X * cn t := IntWalk.i64_in _ (by omega)
  have e2 : IntKind.i64.wrap (Y * sn t) = Y * sn t := IntWalk.i64_in _ (by omega)
  have e3 : IntKind.i64.wrap (X * sn t) = X * sn t := IntWalk.i64_in _ (by omega)
  have e4 : IntKind.i64.wrap (Y * cn t) = Y * cn t := IntWalk.i64_in _ (by omega)
  have e5 : IntKind.i64.wrap (X * cn t - Y * sn t) = X * cn t - Y * sn t := IntWalk.i64_in _ (by omega)
  have e6 : IntKind.i64.wrap (X * sn t + Y * cn t) = X * sn t + Y * cn t := IntWalk.i64_in _ (by omega)
  obtain ⟨q0, q1, q2, q3, q4, q5, ql⟩ := id Q
  go_wp2_with (first | (go_at_call 55; refine (cos_any _ _).mono ?_; rintro e w' ⟨rfl, rfl⟩) | (go_at_call 54; refine (sin_any _ _).mono ?_; rintro e w' ⟨rfl, rfl⟩) | (go_at_call 42; refine (round_any _ _ (by omega) (by omega)).mono ?_; rintro e w' ⟨rfl, rfl⟩) | (go_at_call 39; refine (hy_any _ _ _).mono ?_; rintro e w' ⟨rfl, rfl⟩))
  have HC := Lib.hid (show cr3 X Y Z t = (adiff 0 (a2 (crR X Y t) (hy (crA X Y t) Z).1).1, adiff 0 (a2 (crA X Y t) Z).1, 0) from rfl)
  rw [show rd (X * cn t - Y * sn t) = crR X Y t from rfl, show rd (X * sn t + Y * cn t) = crA X Y t from rfl]
  clear p0 p1 p2 p3 p4 p5 p6 p7 e1 e2 e3 e4 e5 e6 bST bCT q0 q1 q2 q3 q4 q5 ql
  generalize crR X Y t = R at *
  generalize crA X Y t = A at *
  generalize (hy A Z).1 = h at *
  generalize w3.alloc (.cells #[.int .i64 X, .int .i64 Y, .int .i64 Z] 26) = v3 at *
  generalize w3.heap.size = bq at *
  refine (a2_any _ _ _).mono ?_
  rintro e w4 ⟨rfl, hb4⟩
  replace Q := Q.next hb4
  replace B := Lib.hid (thn B.out hb4)
  clear hb4
  obtain ⟨q0, q1, q2, q3, q4, q5, ql⟩ := id Q
  go_wp2_with fail
  refine (a2_any _ _ _).mono ?_
  rintro e w5 ⟨rfl, hb5⟩
  replace B := Lib.hid (thn B.out hb5)
  clear hb5 q0 q1 q2 q3 q4 q5 ql Q
  go_wp2_with (go_at_call 41; refine (signed_any _ _).mono ?_; rintro e w' ⟨rfl, rfl⟩)
  exact bodyPost_ret (v := .tuple #[.int .i64 (adiff 0 (a2 R h).1), .int .i64 (adiff 0 (a2 A Z).1), .int .i64 0]) (by simp [results, Try.results31, go_sem]) rfl ⟨by rw [HX.out, HY.out, HZ.out]; exact i3 HC.out.symm, B.out⟩
theorem cross_any (a b t c d : Int) (w : World) :
    Calls Try.prog 31 #[posV a b, .int .i64 t, posV c d] w fun e w' => e = I3 (crv a b t c d) ∧ Below w.heap.size w w' := by
  unfold crv
  cases h1 : vd a b
  · exact cross_a a b t c d w h1
  cases h2 : vd c d
  · exact cross_b a b t c d w h1 h2
  · exact cross_c a b t c d w h1 h2
set_option maxHeartbeats 1600000 in
theorem rcross_a (a b t c d : Int) (w : World) (h1 : (vd a b && vd c d) = false) :
    Calls Try.prog 32 #[posV a b, .int .i64 t, posV c d] w fun e w' => e = I3 (0, 0, 1) ∧ Below w.heap.size w w' := by
  have HL := Lib.hid (show lclv a b c d = (0, 0, 0, 1) by unfold lclv; rw [if_neg (by rw [h1]; decide)])
  clear h1
  go_enter Try.func32, Try.ntmps32
  go_wp2_with fail
  refine (rLocal_any _ _ _ _ _).mono ?_
  rintro e w1 ⟨rfl, hb⟩
  have B := thn (below_alloc2 w _ _) hb
  rw [HL.out]
  replace B := alc B (.cells #[.int .i64 0, .int .i64 0, .int .i64 0] 26)
  go_wp2
  exact bodyPost_ret (v := .tuple #[.int .i64 0, .int .i64 0, .int .i64 1]) (by simp [results, Try.results32, go_sem]) rfl ⟨rfl, B⟩
set_option maxHeartbeats 4000000 in
theorem rcross_c (a b t c d : Int) (w : World) (h1 : (vd a b && vd c d) = true) :
    Calls Try.prog 32 #[posV a b, .int .i64 t, posV c d] w fun e w' => e = I3 (cr3 (lx b c d) (ly a b c d) (lz a b c d) t) ∧ Below w.heap.size w w' := by
  have HL := Lib.hid (show lclv a b c d = (lx b c d, ly a b c d, lz a b c d, 0) by unfold lclv; rw [if_pos h1])
  clear h1
  obtain ⟨⟨x0, x1⟩, ⟨y0, y1⟩, zz⟩ := lxy_b a b c d
  go_enter Try.func32, Try.ntmps32
  go_wp2_with fail
  refine (rLocal_any _ _ _ _ _).mono ?_
  rintro e w3 ⟨rfl, hb⟩
  have B := thn (below_alloc2 w _ _) hb
  rw [HL.out]
  clear hb
  generalize hX : lx b c d = X at *
  have HX := Lib.hid hX
  clear hX
  generalize hY : ly a b c d = Y at *
  have HY := Lib.hid hY
  clear hY
  generalize hZ : lz a b c d = Z at *
  have HZ := Lib.hid hZ
  clear hZ
  have Q := c3_new w3 (.int .i64 X) (.int .i64 Y) (.int .i64 Z) 26
  replace B := Lib.hid (alc B (.cells #[.int .i64 X, .int .i64 Y, .int .i64 Z] 26))
  have bST := sn_b t
  have bCT := cn_b t
  have ⟨p0, p1⟩ := xb x0 x1 bCT.1 bCT.2
  have ⟨p2, p3⟩ := xb y0 y1 bST.1 bST.2
  have ⟨p4, p5⟩ := xb x0 x1 bST.1 bST.2
  have ⟨p6, p7⟩ := xb y0 y1 bCT.1 bCT.2
  have e1 : IntKind.i64.wrap (X * cn t) = X * cn t := IntWalk.i64_in _ (by omega)
  have e2 : IntKind.i64.wrap (Y * sn t) = Y * sn t := IntWalk.i64_in _ (by omega)
  have e3 : IntKind.i64.wrap (X * sn t) = X * sn t := IntWalk.i64_in _ (by omega)
  have e4 : IntKind.i64.wrap (Y * cn t) = Y * cn t := IntWalk.i64_in _ (by omega)
  have e5 : IntKind.i64.wrap (X * cn t - Y * sn t) = X * cn t - Y * sn t := IntWalk.i64_in _ (by omega)
  have e6 : IntKind.i64.wrap (X * sn t + Y * cn t) = X * sn t + Y * cn t := IntWalk.i64_in _ (by omega)
  obtain ⟨q0, q1, q2, q3, q4, q5, ql⟩ := id Q
  go_wp2_with (first | (go_at_call 36; refine (rcos_any _ _).mono ?_; rintro e w' ⟨rfl, rfl⟩) | (go_at_call 38; refine (rsin_any _ _).mono ?_; rintro e w' ⟨rfl, rfl⟩))
  go_wp2
  go_quiet (first | (go_at_call 37; exact quiet_same (rround_any _ _ (by omega) (by omega))))
  have HC := Lib.hid (show cr3 X Y Z t = (adiff 0 (a2 (crR X Y t) (hy (crA X Y t) Z).1).1, adiff 0 (a2 (crA X Y t) Z).1, 0) from rfl)
  rw [show rd (X * cn t - Y * sn t) = crR X Y t from rfl, show rd (X * sn t + Y * cn t) = crA X Y t from rfl]
  clear p0 p1 p2 p3 p4 p5 p6 p7 e1 e2 e3 e4 e5 e6 bST bCT q0 q1 q2 q3 q4 q5 ql
  generalize crR X Y t = R at *
  generalize crA X Y t = A at *
  replace Q := Q.next (below_draws _ _ nq)
  replace B := Lib.hid (thn B.out (below_draws _ _ nq))
  generalize (w3.alloc (.cells #[.int .i64 X, .int .i64 Y, .int .i64 Z] 26)).drewN nq = v3 at *
  generalize w3.heap.size = bq at *
  obtain ⟨q0, q1, q2, q3, q4, q5, ql⟩ := id Q
  go_wp2_with (first | (go_at_call 46; refine (rhy_any _ _ _).mono ?_; rintro e w' ⟨rfl, rfl⟩) | (go_at_call 47; refine (ra2_any _ _ _).mono ?_; rintro e w' ⟨rfl, rfl⟩) | (go_at_call 48; refine (rsigned_any _ _).mono ?_; rintro e w' ⟨rfl, rfl⟩))
  exact bodyPost_ret (v := .tuple #[.int .i64 (adiff 0 (a2 R (hy A Z).1).1), .int .i64 (adiff 0 (a2 A Z).1), .int .i64 0]) (by simp [results, Try.results32, go_sem]) rfl ⟨by rw [HX.out, HY.out, HZ.out]; exact i3 HC.out.symm, B.out⟩
theorem rcross_any (a b t c d : Int) (w : World) :
    Calls Try.prog 32 #[posV a b, .int .i64 t, posV c d] w fun e w' => e = I3 (crv a b t c d) ∧ Below w.heap.size w w' := by
  unfold crv
  cases h1 : vd a b && vd c d
  · exact rcross_a a b t c d w h1
  · exact rcross_c a b t c d w h1
end Go.Proofs.Ytgcmmfclnialfaa
