/- The reference of package plane: the position of a point. -/
import Derived.Test.YtmlacekgmdlfjaaPlnC
import Derived.Test.YtmlacekgmdlfjaaPlnD
namespace Go.Proofs.Ytmlacekgmdlfjaa
open Go.RowKit Go.Joins Fdk
set_option linter.unusedVariables false
set_option maxHeartbeats 8000000 in
theorem rfrom_a (a b x y : Int) (w : World) (h1 : org a b = false) :
    Calls Try.prog 15 #[posV a b, ptV x y] w fun e w' => e = Ps3 (0, 0, 1) ∧ Below w.heap.size w w' := by
  go_enter Try.func15, Try.ntmps15
  go_wp2_with fail
  refine (rorg_any _ _ _).mono ?_
  rintro e w1 ⟨rfl, hb⟩
  have B := thn (below_alloc3 w _ _ _) hb
  have T := (((c2_new w (.int .i64 a) (.int .i64 b) 23).alc _).alc _).next hb
  have U := ((c2_new _ (.int .i64 x) (.int .i64 y) 25).alc _).next hb
  have Z := (c2_new _ (.int .i64 0) (.int .i64 0) 23).next hb
  simp only [World.alloc, Array.size_push] at U Z
  clear hb
  rw [h1]
  obtain ⟨z0, z1, z2, z3, zl⟩ := id Z
  go_wp2
  exact bodyPost_ret (v := .tuple #[posV 0 0, .int .i64 1]) (by simp [results, Try.results15, go_sem, *]) rfl ⟨rfl, below_put2 B (b := w.heap.size + 1 + 1) (Nat.le_succ_of_le (Nat.le_succ _)) _ _⟩
set_option maxHeartbeats 8000000 in
theorem rfrom_b (a b x y : Int) (w : World) (h1 : org a b = true) (h2 : pvd x y = false) :
    Calls Try.prog 15 #[posV a b, ptV x y] w fun e w' => e = Ps3 (0, 0, 2) ∧ Below w.heap.size w w' := by
  go_enter Try.func15, Try.ntmps15
  go_wp2_with fail
  refine (rorg_any _ _ _).mono ?_
  rintro e w1 ⟨rfl, hb⟩
  have B := thn (below_alloc3 w _ _ _) hb
  have T := (((c2_new w (.int .i64 a) (.int .i64 b) 23).alc _).alc _).next hb
  have U := ((c2_new _ (.int .i64 x) (.int .i64 y) 25).alc _).next hb
  have Z := (c2_new _ (.int .i64 0) (.int .i64 0) 23).next hb
  simp only [World.alloc, Array.size_push] at U Z
  clear hb
  rw [h1]
  obtain ⟨u0, u1, u2, u3, ul⟩ := id U
  go_wp2_with fail
  clear u0 u1 u2 u3 ul
  refine (rpvalid_any _ _ _).mono ?_
  rintro e w2 ⟨rfl, hb⟩
  replace B := thn B hb
  replace T := T.next hb
  replace U := U.next hb
  replace Z := Z.next hb
  clear hb
  rw [h2]
  obtain ⟨z0, z1, z2, z3, zl⟩ := id Z
  go_wp2
  exact bodyPost_ret (v := .tuple #[posV 0 0, .int .i64 2]) (by simp [results, Try.results15, go_sem, *]) rfl ⟨rfl, below_put2 B (b := w.heap.size + 1 + 1) (Nat.le_succ_of_le (Nat.le_succ _)) _ _⟩
set_option maxHeartbeats 8000000 in
theorem rfrom_c (a b x y : Int) (w : World) (h1 : org a b = true) (h2 : pvd x y = true) :
    Calls Try.prog 15 #[posV a b, ptV x y] w fun e w' => e = Ps3 (posn (qnear (20626481 * rd (cn a * cn b) - sn b * x - rd (sn a * cn b) * y) 20626481) (qnear (20626481 * rd (cn a * sn b) + cn b * x - rd (sn a * sn b) * y) 20626481) (qnear (20626481 * sn a + cn a * y) 20626481)) ∧ Below w.heap.size w w' := by
  have HO := Lib.hid (show ofv a b = (rd (cn a * cn b), rd (cn a * sn b), sn a, 0) by unfold ofv; rw [if_pos (org_vd h1)])
  generalize hR : posn (qnear (20626481 * rd (cn a * cn b) - sn b * x - rd (sn a * cn b) * y) 20626481) (qnear (20626481 * rd (cn a * sn b) + cn b * x - rd (sn a * sn b) * y) 20626481) (qnear (20626481 * sn a + cn a * y) 20626481) = R
  have HR := Lib.hid hR
  clear hR
  go_enter Try.func15, Try.ntmps15
  go_wp2_with fail
  refine (rorg_any _ _ _).mono ?_
  rintro e w1 ⟨rfl, hb⟩
  have B := thn (below_alloc3 w _ _ _) hb
  have T := (((c2_new w (.int .i64 a) (.int .i64 b) 23).alc _).alc _).next hb
  have U := ((c2_new _ (.int .i64 x) (.int .i64 y) 25).alc _).next hb
  have Z := (c2_new _ (.int .i64 0) (.int .i64 0) 23).next hb
  simp only [World.alloc, Array.size_push] at U Z
  clear hb
  rw [h1]
  obtain ⟨u0, u1, u2, u3, ul⟩ := id U
  go_wp2_with fail
  clear u0 u1 u2 u3 ul
  refine (rpvalid_any _ _ _).mono ?_
  rintro e w2 ⟨rfl, hb⟩
  replace B := thn B hb
  replace T := T.next hb
  replace U := U.next hb
  replace Z := Z.next hb
  clear hb
  rw [h2]
  obtain ⟨t0, t1, t2, t3, tl⟩ := id T
  go_wp2_with fail
  clear t0 t1 t2 t3 tl
  refine (rOf_any _ _ _).mono ?_
  rintro e w3 ⟨rfl, hb⟩
  replace B := alc (thn B hb) (.cells #[.int .i64 (rd (cn a * cn b)), .int .i64 (rd (cn a * sn b)), .int .i64 (sn a)] 44)
  replace T := (T.next hb).alc (.cells #[.int .i64 (rd (cn a * cn b)), .int .i64 (rd (cn a * sn b)), .int .i64 (sn a)] 44)
  replace U := (U.next hb).alc (.cells #[.int .i64 (rd (cn a * cn b)), .int .i64 (rd (cn a * sn b)), .int .i64 (sn a)] 44)
  replace Z := (Z.next hb).alc (.cells #[.int .i64 (rd (cn a * cn b)), .int .i64 (rd (cn a * sn b)), .int .i64 (sn a)] 44)
  have V := c3_new w3 (.int .i64 (rd (cn a * cn b))) (.int .i64 (rd (cn a * sn b))) (.int .i64 (sn a)) 44
  clear hb
  rw [HO.out]
  have ⟨⟨x0, x1⟩, y0, y1⟩ := pvd_of h2
  have bX1 := one_rd (cc_b a b)
  have bY1 := one_rd (cs_b a b)
  have bZ1 : One1 (sn a) := sn_b a
  have bA := one_rd (sc_b a b)
  have bB := one_rd (ss_b a b)
  have bC : One1 (cn b) := cn_b b
  have bS : One1 (sn b) := sn_b b
  have bD : One1 (cn a) := cn_b a
  have ⟨q0, q1⟩ := pb (p := sn b) (q := x) 2147483648000000 ⟨bS.1, bS.2⟩ ⟨x0, x1⟩ (by omega) (by decide)
  have ⟨q2, q3⟩ := pb (p := cn b) (q := x) 2147483648000000 ⟨bC.1, bC.2⟩ ⟨x0, x1⟩ (by omega) (by decide)
  have ⟨q4, q5⟩ := pb (p := rd (sn a * cn b)) (q := y) 2147483648000000 ⟨bA.1, bA.2⟩ ⟨y0, y1⟩ (by omega) (by decide)
  have ⟨q6, q7⟩ := pb (p := rd (sn a * sn b)) (q := y) 2147483648000000 ⟨bB.1, bB.2⟩ ⟨y0, y1⟩ (by omega) (by decide)
  have ⟨q8, q9⟩ := pb (p := cn a) (q := y) 2147483648000000 ⟨bD.1, bD.2⟩ ⟨y0, y1⟩ (by omega) (by decide)
  have ⟨k0, k1⟩ := bX1
  have ⟨k2, k3⟩ := bY1
  have ⟨k4, k5⟩ := bZ1
  have g0 : IntKind.i64.wrap (sn b * x) = sn b * x := IntWalk.i64_in _ (by omega)
  have g1 : IntKind.i64.wrap (cn b * x) = cn b * x := IntWalk.i64_in _ (by omega)
  have g2 : IntKind.i64.wrap (rd (sn a * cn b) * y) = rd (sn a * cn b) * y := IntWalk.i64_in _ (by omega)
  have g3 : IntKind.i64.wrap (rd (sn a * sn b) * y) = rd (sn a * sn b) * y := IntWalk.i64_in _ (by omega)
  have g4 : IntKind.i64.wrap (cn a * y) = cn a * y := IntWalk.i64_in _ (by omega)
  have g5 : IntKind.i64.wrap (20626481 * rd (cn a * cn b)) = 20626481 * rd (cn a * cn b) := IntWalk.i64_in _ (by omega)
  have g6 : IntKind.i64.wrap (20626481 * rd (cn a * sn b)) = 20626481 * rd (cn a * sn b) := IntWalk.i64_in _ (by omega)
  have g7 : IntKind.i64.wrap (20626481 * sn a) = 20626481 * sn a := IntWalk.i64_in _ (by omega)
  have g8 : IntKind.i64.wrap (20626481 * rd (cn a * cn b) - sn b * x) = 20626481 * rd (cn a * cn b) - sn b * x := IntWalk.i64_in _ (by omega)
  have g9 : IntKind.i64.wrap (20626481 * rd (cn a * sn b) + cn b * x) = 20626481 * rd (cn a * sn b) + cn b * x := IntWalk.i64_in _ (by omega)
  have g10 : IntKind.i64.wrap (20626481 * rd (cn a * cn b) - sn b * x - rd (sn a * cn b) * y) = 20626481 * rd (cn a * cn b) - sn b * x - rd (sn a * cn b) * y := IntWalk.i64_in _ (by omega)
  have g11 : IntKind.i64.wrap (20626481 * rd (cn a * sn b) + cn b * x - rd (sn a * sn b) * y) = 20626481 * rd (cn a * sn b) + cn b * x - rd (sn a * sn b) * y := IntWalk.i64_in _ (by omega)
  have g12 : IntKind.i64.wrap (20626481 * sn a + cn a * y) = 20626481 * sn a + cn a * y := IntWalk.i64_in _ (by omega)
  clear bX1 bY1 bZ1 bA bB bC bS bD
  obtain ⟨t0, t1, t2, t3, tl⟩ := id T
  go_wp2_with fail
  clear t0 t1 t2 t3 tl
  generalize w3.alloc (.cells #[.int .i64 (rd (cn a * cn b)), .int .i64 (rd (cn a * sn b)), .int .i64 (sn a)] 44) = y0w at *
  generalize w3.heap.size = bv at *
  refine (rslo_any _ _ _).mono ?_
  rintro e y1w ⟨rfl, hb⟩
  replace B := thn B hb
  replace T := T.next hb
  replace U := U.next hb
  replace Z := Z.next hb
  replace V := V.next hb
  clear hb
  obtain ⟨t0, t1, t2, t3, tl⟩ := id T
  obtain ⟨u0, u1, u2, u3, ul⟩ := id U
  obtain ⟨v0, v1, v2, v3, v4, v5, vl⟩ := id V
  go_wp2
  go_quiet (first | (go_at_call 35; exact quiet_same (rsin_any _ _)) | (go_at_call 36; exact quiet_same (rcos_any _ _)) | (go_at_call 34; exact quiet_same (rfround_any _ _ _ (by omega) (by omega) (by omega) (by omega))))
  clear t0 t1 t2 t3 tl u0 u1 u2 u3 ul v0 v1 v2 v3 v4 v5 vl
  replace T := T.next (below_draws _ y1w nq)
  replace U := U.next (below_draws _ y1w nq)
  replace Z := Z.next (below_draws _ y1w nq)
  replace V := V.next (below_draws _ y1w nq)
  replace B := thn B (below_draws _ y1w nq)
  generalize y1w.drewN nq = y2w at *
  obtain ⟨t0, t1, t2, t3, tl⟩ := id T
  obtain ⟨u0, u1, u2, u3, ul⟩ := id U
  obtain ⟨v0, v1, v2, v3, v4, v5, vl⟩ := id V
  go_wp2
  go_quiet (first | (go_at_call 35; exact quiet_same (rsin_any _ _)) | (go_at_call 36; exact quiet_same (rcos_any _ _)) | (go_at_call 34; exact quiet_same (rfround_any _ _ _ (by omega) (by omega) (by omega) (by omega))))
  clear t0 t1 t2 t3 tl u0 u1 u2 u3 ul v0 v1 v2 v3 v4 v5 vl
  replace T := T.next (below_draws _ y2w nq)
  replace U := U.next (below_draws _ y2w nq)
  replace Z := Z.next (below_draws _ y2w nq)
  replace V := V.next (below_draws _ y2w nq)
  replace B := thn B (below_draws _ y2w nq)
  generalize y2w.drewN nq = y3w at *
  obtain ⟨t0, t1, t2, t3, tl⟩ := id T
  obtain ⟨u0, u1, u2, u3, ul⟩ := id U
  obtain ⟨v0, v1, v2, v3, v4, v5, vl⟩ := id V
  go_wp2
  go_quiet (first | (go_at_call 35; exact quiet_same (rsin_any _ _)) | (go_at_call 36; exact quiet_same (rcos_any _ _)) | (go_at_call 34; exact quiet_same (rfround_any _ _ _ (by omega) (by omega) (by omega) (by omega))))
  clear t0 t1 t2 t3 tl u0 u1 u2 u3 ul v0 v1 v2 v3 v4 v5 vl
  replace T := T.next (below_draws _ y3w nq)
  replace U := U.next (below_draws _ y3w nq)
  replace Z := Z.next (below_draws _ y3w nq)
  replace V := V.next (below_draws _ y3w nq)
  replace B := thn B (below_draws _ y3w nq)
  generalize y3w.drewN nq = y4w at *
  clear T U V
  go_wp2_with fail
  refine (rpos_any _ _ _ _).mono ?_
  rintro e x5 ⟨rfl, hb⟩
  replace B := thn B hb
  replace Z := Z.next hb
  clear hb
  rw [HR.out]
  obtain ⟨z0, z1, z2, z3, zl⟩ := id Z
  go_wp2
  exact bodyPost_ret (v := .tuple #[posV R.1 R.2.1, .int .i64 R.2.2]) (by simp [results, Try.results15, go_sem, *]) rfl ⟨rfl, below_put2 B (b := w.heap.size + 1 + 1) (Nat.le_succ_of_le (Nat.le_succ _)) _ _⟩
theorem rfrom_any (a b x y : Int) (w : World) :
    Calls Try.prog 15 #[posV a b, ptV x y] w fun e w' => e = Ps3 (frv a b x y) ∧ Below w.heap.size w w' := by
  unfold frv
  cases h1 : org a b
  · exact rfrom_a a b x y w h1
  cases h2 : pvd x y
  · exact rfrom_b a b x y w h1 h2
  · exact rfrom_c a b x y w h1 h2
end Go.Proofs.Ytmlacekgmdlfjaa
