/- The reference of package sphere: Dist and Course. -/
import Derived.Test.YtgcmmfclnialfaaSphL
import Derived.Test.YtgcmmfclnialfaaSphG
import Derived.Test.YtgcmmfclnialfaaSphI
namespace Go.Proofs.Ytgcmmfclnialfaa
open Go.RowKit Go.Joins Fdk
set_option linter.unusedVariables false
set_option maxHeartbeats 4000000 in
theorem rdist_a (a b c d : Int) (w : World) (h1 : vd a b = false) :
    Calls Try.prog 23 #[posV a b, posV c d] w fun e w' => e = TwoInts 0 1 ∧ Below w.heap.size w w' := by
  have HO := Lib.hid (show ofv a b = (0, 0, 0, 1) by simp [ofv, h1])
  clear h1
  go_enter Try.func23, Try.ntmps23
  go_wp2_with fail
  refine (rOf_any _ _ _).mono ?_
  rintro e w1 ⟨rfl, hb⟩
  have B := thn (below_alloc2 w _ _) hb
  have T := ((c2_new w (.int .i64 a) (.int .i64 b) 23).alc _).next hb
  have U := (c2_new _ (.int .i64 c) (.int .i64 d) 23).next hb
  simp only [World.alloc, Array.size_push] at U
  clear hb
  obtain ⟨d0, d1, j0, j1, l1⟩ := id U
  rw [HO.out]
  have P := c3_new w1 (.int .i64 (0)) (.int .i64 (0)) (.int .i64 (0)) 26
  replace B := alc B (.cells #[.int .i64 (0), .int .i64 (0), .int .i64 (0)] 26)
  replace T := T.alc (.cells #[.int .i64 (0), .int .i64 (0), .int .i64 (0)] 26)
  replace U := U.alc (.cells #[.int .i64 (0), .int .i64 (0), .int .i64 (0)] 26)
  have l2 : w.heap.size ≤ w1.heap.size := Nat.le_trans (Nat.le_succ_of_le (Nat.le_succ _)) l1
  go_wp2_with fail
  clear d0 d1 j0 j1 l1
  generalize w1.alloc (.cells #[.int .i64 (0), .int .i64 (0), .int .i64 (0)] 26) = v1 at *
  generalize w1.heap.size = bp at *
  refine (rOf_any _ _ _).mono ?_
  rintro e w2 ⟨rfl, hb⟩
  replace B := alc (thn B hb) (.cells #[.int .i64 (ofv c d).1, .int .i64 (ofv c d).2.1, .int .i64 (ofv c d).2.2.1] 26)
  clear hb T U P
  go_wp2
  go_ret2
  exact ⟨rfl, B⟩
set_option maxHeartbeats 4000000 in
theorem rdist_b (a b c d : Int) (w : World) (h1 : vd a b = true) (h2 : vd c d = false) :
    Calls Try.prog 23 #[posV a b, posV c d] w fun e w' => e = TwoInts 0 1 ∧ Below w.heap.size w w' := by
  have HO := Lib.hid (show ofv a b = (rd (cn a * cn b), rd (cn a * sn b), sn a, 0) by simp [ofv, h1])
  have HQ := Lib.hid (show ofv c d = (0, 0, 0, 1) by simp [ofv, h2])
  clear h1 h2
  go_enter Try.func23, Try.ntmps23
  go_wp2_with fail
  refine (rOf_any _ _ _).mono ?_
  rintro e w1 ⟨rfl, hb⟩
  have B := thn (below_alloc2 w _ _) hb
  have T := ((c2_new w (.int .i64 a) (.int .i64 b) 23).alc _).next hb
  have U := (c2_new _ (.int .i64 c) (.int .i64 d) 23).next hb
  simp only [World.alloc, Array.size_push] at U
  clear hb
  obtain ⟨d0, d1, j0, j1, l1⟩ := id U
  rw [HO.out]
  have P := c3_new w1 (.int .i64 (rd (cn a * cn b))) (.int .i64 (rd (cn a * sn b))) (.int .i64 (sn a)) 26
  replace B := alc B (.cells #[.int .i64 (rd (cn a * cn b)), .int .i64 (rd (cn a * sn b)), .int .i64 (sn a)] 26)
  replace T := T.alc (.cells #[.int .i64 (rd (cn a * cn b)), .int .i64 (rd (cn a * sn b)), .int .i64 (sn a)] 26)
  replace U := U.alc (.cells #[.int .i64 (rd (cn a * cn b)), .int .i64 (rd (cn a * sn b)), .int .i64 (sn a)] 26)
  have l2 : w.heap.size ≤ w1.heap.size := Nat.le_trans (Nat.le_succ_of_le (Nat.le_succ _)) l1
  go_wp2_with fail
  clear d0 d1 j0 j1 l1
  generalize w1.alloc (.cells #[.int .i64 (rd (cn a * cn b)), .int .i64 (rd (cn a * sn b)), .int .i64 (sn a)] 26) = v1 at *
  generalize w1.heap.size = bp at *
  refine (rOf_any _ _ _).mono ?_
  rintro e w2 ⟨rfl, hb⟩
  replace B := alc (thn B hb) (.cells #[.int .i64 (0), .int .i64 (0), .int .i64 (0)] 26)
  replace T := (T.next hb).alc (.cells #[.int .i64 (0), .int .i64 (0), .int .i64 (0)] 26)
  replace U := (U.next hb).alc (.cells #[.int .i64 (0), .int .i64 (0), .int .i64 (0)] 26)
  replace P := (P.next hb).alc (.cells #[.int .i64 (0), .int .i64 (0), .int .i64 (0)] 26)
  have Q := c3_new w2 (.int .i64 (0)) (.int .i64 (0)) (.int .i64 (0)) 26
  clear hb
  rw [HQ.out]
  clear T U P Q
  go_wp2
  go_ret2
  exact ⟨rfl, B⟩
set_option maxHeartbeats 4000000 in
theorem rdist_c (a b c d : Int) (w : World) (h1 : vd a b = true) (h2 : vd c d = true) :
    Calls Try.prog 23 #[posV a b, posV c d] w fun e w' => e = TwoInts (dv a b c d) 0 ∧ Below w.heap.size w w' := by
  have HV := Lib.hid (show dv a b c d = (a2 (isq (csum (rd (cn a * sn b) * sn c - sn a * rd (cn c * sn d)) (sn a * rd (cn c * cn d) - rd (cn a * cn b) * sn c) (rd (cn a * cn b) * rd (cn c * sn d) - rd (cn a * sn b) * rd (cn c * cn d)))) (rd (rd (cn a * cn b) * rd (cn c * cn d) + rd (cn a * sn b) * rd (cn c * sn d) + sn a * sn c))).1 from rfl)
  have HO := Lib.hid (show ofv a b = (rd (cn a * cn b), rd (cn a * sn b), sn a, 0) by simp [ofv, h1])
  have HQ := Lib.hid (show ofv c d = (rd (cn c * cn d), rd (cn c * sn d), sn c, 0) by simp [ofv, h2])
  clear h1 h2
  go_enter Try.func23, Try.ntmps23
  go_wp2_with fail
  refine (rOf_any _ _ _).mono ?_
  rintro e w1 ⟨rfl, hb⟩
  have B := thn (below_alloc2 w _ _) hb
  have T := ((c2_new w (.int .i64 a) (.int .i64 b) 23).alc _).next hb
  have U := (c2_new _ (.int .i64 c) (.int .i64 d) 23).next hb
  simp only [World.alloc, Array.size_push] at U
  clear hb
  obtain ⟨d0, d1, j0, j1, l1⟩ := id U
  rw [HO.out]
  have P := c3_new w1 (.int .i64 (rd (cn a * cn b))) (.int .i64 (rd (cn a * sn b))) (.int .i64 (sn a)) 26
  replace B := alc B (.cells #[.int .i64 (rd (cn a * cn b)), .int .i64 (rd (cn a * sn b)), .int .i64 (sn a)] 26)
  replace T := T.alc (.cells #[.int .i64 (rd (cn a * cn b)), .int .i64 (rd (cn a * sn b)), .int .i64 (sn a)] 26)
  replace U := U.alc (.cells #[.int .i64 (rd (cn a * cn b)), .int .i64 (rd (cn a * sn b)), .int .i64 (sn a)] 26)
  have l2 : w.heap.size ≤ w1.heap.size := Nat.le_trans (Nat.le_succ_of_le (Nat.le_succ _)) l1
  go_wp2_with fail
  clear d0 d1 j0 j1 l1
  generalize w1.alloc (.cells #[.int .i64 (rd (cn a * cn b)), .int .i64 (rd (cn a * sn b)), .int .i64 (sn a)] 26) = v1 at *
  generalize w1.heap.size = bp at *
  refine (rOf_any _ _ _).mono ?_
  rintro e w2 ⟨rfl, hb⟩
  replace B := alc (thn B hb) (.cells #[.int .i64 (rd (cn c * cn d)), .int .i64 (rd (cn c * sn d)), .int .i64 (sn c)] 26)
  replace T := (T.next hb).alc (.cells #[.int .i64 (rd (cn c * cn d)), .int .i64 (rd (cn c * sn d)), .int .i64 (sn c)] 26)
  replace U := (U.next hb).alc (.cells #[.int .i64 (rd (cn c * cn d)), .int .i64 (rd (cn c * sn d)), .int .i64 (sn c)] 26)
  replace P := (P.next hb).alc (.cells #[.int .i64 (rd (cn c * cn d)), .int .i64 (rd (cn c * sn d)), .int .i64 (sn c)] 26)
  have Q := c3_new w2 (.int .i64 (rd (cn c * cn d))) (.int .i64 (rd (cn c * sn d))) (.int .i64 (sn c)) 26
  clear hb
  rw [HQ.out]
  clear T U
  have UA : Unit3 (rd (cn a * cn b)) (rd (cn a * sn b)) (sn a) := norm_b a b
  have UB : Unit3 (rd (cn c * cn d)) (rd (cn c * sn d)) (sn c) := norm_b c d
  have HE := Lib.hid (dist_ok UA UB)
  obtain ⟨s0, s1, s2, s3, s4, s5, s6⟩ := dist_b UA UB
  have bX1 := one_rd (cc_b a b)
  have bY1 := one_rd (cs_b a b)
  have bZ1 : One1 (sn a) := sn_b a
  have bX2 := one_rd (cc_b c d)
  have bY2 := one_rd (cs_b c d)
  have bZ2 : One1 (sn c) := sn_b c
  have HK3 := Lib.hid (rdot_one bX1 bY1 bZ1 bX2 bY2 bZ2)
  clear UA UB s6
  generalize rd (cn a * cn b) = X1 at *
  generalize rd (cn a * sn b) = Y1 at *
  generalize sn a = Z1 at *
  generalize rd (cn c * cn d) = X2 at *
  generalize rd (cn c * sn d) = Y2 at *
  generalize sn c = Z2 at *
  have ⟨pX1X20, pX1X21⟩ := one_b bX1.1 bX1.2 bX2.1 bX2.2
  have eX1X2 : IntKind.i64.wrap (X1 * X2) = X1 * X2 := IntWalk.i64_in _ (by omega)
  have ⟨pX1Y20, pX1Y21⟩ := one_b bX1.1 bX1.2 bY2.1 bY2.2
  have eX1Y2 : IntKind.i64.wrap (X1 * Y2) = X1 * Y2 := IntWalk.i64_in _ (by omega)
  have ⟨pX1Z20, pX1Z21⟩ := one_b bX1.1 bX1.2 bZ2.1 bZ2.2
  have eX1Z2 : IntKind.i64.wrap (X1 * Z2) = X1 * Z2 := IntWalk.i64_in _ (by omega)
  have ⟨pY1X20, pY1X21⟩ := one_b bY1.1 bY1.2 bX2.1 bX2.2
  have eY1X2 : IntKind.i64.wrap (Y1 * X2) = Y1 * X2 := IntWalk.i64_in _ (by omega)
  have ⟨pY1Y20, pY1Y21⟩ := one_b bY1.1 bY1.2 bY2.1 bY2.2
  have eY1Y2 : IntKind.i64.wrap (Y1 * Y2) = Y1 * Y2 := IntWalk.i64_in _ (by omega)
  have ⟨pY1Z20, pY1Z21⟩ := one_b bY1.1 bY1.2 bZ2.1 bZ2.2
  have eY1Z2 : IntKind.i64.wrap (Y1 * Z2) = Y1 * Z2 := IntWalk.i64_in _ (by omega)
  have ⟨pZ1X20, pZ1X21⟩ := one_b bZ1.1 bZ1.2 bX2.1 bX2.2
  have eZ1X2 : IntKind.i64.wrap (Z1 * X2) = Z1 * X2 := IntWalk.i64_in _ (by omega)
  have ⟨pZ1Y20, pZ1Y21⟩ := one_b bZ1.1 bZ1.2 bY2.1 bY2.2
  have eZ1Y2 : IntKind.i64.wrap (Z1 * Y2) = Z1 * Y2 := IntWalk.i64_in _ (by omega)
  have ⟨pZ1Z20, pZ1Z21⟩ := one_b bZ1.1 bZ1.2 bZ2.1 bZ2.2
  have eZ1Z2 : IntKind.i64.wrap (Z1 * Z2) = Z1 * Z2 := IntWalk.i64_in _ (by omega)
  have eS0 : IntKind.i64.wrap (Y1 * Z2 - Z1 * Y2) = Y1 * Z2 - Z1 * Y2 := IntWalk.i64_in _ (by omega)
  have ⟨n00, n01⟩ := rd_abs s0
  have q00 := mul_nnsq (rd (iabs (Y1 * Z2 - Z1 * Y2)))
  have q01 : rd (iabs (Y1 * Z2 - Z1 * Y2)) * rd (iabs (Y1 * Z2 - Z1 * Y2)) ≤ 1152921532000000000 := Int.le_trans (Int.mul_le_mul n01 n01 n00 (by omega)) (by omega)
  have eQ0 : IntKind.i64.wrap (rd (iabs (Y1 * Z2 - Z1 * Y2)) * rd (iabs (Y1 * Z2 - Z1 * Y2))) = rd (iabs (Y1 * Z2 - Z1 * Y2)) * rd (iabs (Y1 * Z2 - Z1 * Y2)) := IntWalk.i64_in _ (by omega)
  have eS1 : IntKind.i64.wrap (Z1 * X2 - X1 * Z2) = Z1 * X2 - X1 * Z2 := IntWalk.i64_in _ (by omega)
  have ⟨n10, n11⟩ := rd_abs s1
  have q10 := mul_nnsq (rd (iabs (Z1 * X2 - X1 * Z2)))
  have q11 : rd (iabs (Z1 * X2 - X1 * Z2)) * rd (iabs (Z1 * X2 - X1 * Z2)) ≤ 1152921532000000000 := Int.le_trans (Int.mul_le_mul n11 n11 n10 (by omega)) (by omega)
  have eQ1 : IntKind.i64.wrap (rd (iabs (Z1 * X2 - X1 * Z2)) * rd (iabs (Z1 * X2 - X1 * Z2))) = rd (iabs (Z1 * X2 - X1 * Z2)) * rd (iabs (Z1 * X2 - X1 * Z2)) := IntWalk.i64_in _ (by omega)
  have eS2 : IntKind.i64.wrap (X1 * Y2 - Y1 * X2) = X1 * Y2 - Y1 * X2 := IntWalk.i64_in _ (by omega)
  have ⟨n20, n21⟩ := rd_abs s2
  have q20 := mul_nnsq (rd (iabs (X1 * Y2 - Y1 * X2)))
  have q21 : rd (iabs (X1 * Y2 - Y1 * X2)) * rd (iabs (X1 * Y2 - Y1 * X2)) ≤ 1152921532000000000 := Int.le_trans (Int.mul_le_mul n21 n21 n20 (by omega)) (by omega)
  have eQ2 : IntKind.i64.wrap (rd (iabs (X1 * Y2 - Y1 * X2)) * rd (iabs (X1 * Y2 - Y1 * X2))) = rd (iabs (X1 * Y2 - Y1 * X2)) * rd (iabs (X1 * Y2 - Y1 * X2)) := IntWalk.i64_in _ (by omega)
  clear bX1 bY1 bZ1 bX2 bY2 bZ2
  obtain ⟨i0, i1, i2, i3, i4, i5, il⟩ := id P
  obtain ⟨k0, k1, k2, k3, k4, k5, kl⟩ := id Q
  go_wp2_with fail
  clear i0 i1 i2 i3 i4 i5 il k0 k1 k2 k3 k4 k5 kl
  generalize w2.alloc (.cells #[.int .i64 X2, .int .i64 Y2, .int .i64 Z2] 26) = v2 at *
  generalize w2.heap.size = bq at *
  obtain ⟨i0, i1, i2, i3, i4, i5, il⟩ := id P
  obtain ⟨k0, k1, k2, k3, k4, k5, kl⟩ := id Q
  refine (part_any _ _ (by omega) (by omega)).mono ?_
  rintro e w' ⟨rfl, rfl⟩
  go_wp2_with (go_at_call 49; refine (part_any _ _ (by omega) (by omega)).mono ?_; rintro e w' ⟨rfl, rfl⟩)
  have A0 : ∀ w', Below v2.heap.size v2 w' → w'.cell? ⟨bp, 0, none⟩ = some (.int .i64 X1) := fun _ h => (P.next h).c0
  have A1 : ∀ w', Below v2.heap.size v2 w' → w'.cell? ⟨bp, 1, none⟩ = some (.int .i64 Y1) := fun _ h => (P.next h).c1
  have A2 : ∀ w', Below v2.heap.size v2 w' → w'.cell? ⟨bp, 2, none⟩ = some (.int .i64 Z1) := fun _ h => (P.next h).c2
  have A3 : ∀ w', Below v2.heap.size v2 w' → w'.cell? ⟨bq, 0, none⟩ = some (.int .i64 X2) := fun _ h => (Q.next h).c0
  have A4 : ∀ w', Below v2.heap.size v2 w' → w'.cell? ⟨bq, 1, none⟩ = some (.int .i64 Y2) := fun _ h => (Q.next h).c1
  have A5 : ∀ w', Below v2.heap.size v2 w' → w'.cell? ⟨bq, 2, none⟩ = some (.int .i64 Z2) := fun _ h => (Q.next h).c2
  have HB2 := Lib.hid B
  clear i0 i1 i2 i3 i4 i5 il k0 k1 k2 k3 k4 k5 kl P Q B
  unfold csum at s4 s5
  have eA : IntKind.i64.wrap (rd (iabs (Y1 * Z2 - Z1 * Y2)) * rd (iabs (Y1 * Z2 - Z1 * Y2)) + rd (iabs (Z1 * X2 - X1 * Z2)) * rd (iabs (Z1 * X2 - X1 * Z2))) = rd (iabs (Y1 * Z2 - Z1 * Y2)) * rd (iabs (Y1 * Z2 - Z1 * Y2)) + rd (iabs (Z1 * X2 - X1 * Z2)) * rd (iabs (Z1 * X2 - X1 * Z2)) := IntWalk.i64_in _ (by omega)
  have eB : IntKind.i64.wrap (rd (iabs (Y1 * Z2 - Z1 * Y2)) * rd (iabs (Y1 * Z2 - Z1 * Y2)) + rd (iabs (Z1 * X2 - X1 * Z2)) * rd (iabs (Z1 * X2 - X1 * Z2)) + rd (iabs (X1 * Y2 - Y1 * X2)) * rd (iabs (X1 * Y2 - Y1 * X2))) = rd (iabs (Y1 * Z2 - Z1 * Y2)) * rd (iabs (Y1 * Z2 - Z1 * Y2)) + rd (iabs (Z1 * X2 - X1 * Z2)) * rd (iabs (Z1 * X2 - X1 * Z2)) + rd (iabs (X1 * Y2 - Y1 * X2)) * rd (iabs (X1 * Y2 - Y1 * X2)) := IntWalk.i64_in _ (by omega)
  go_region_held3 (fun w' => Below v2.heap.size v2 w') (first | with_reducible exact bdrew _ | with_reducible exact hS5 | with_reducible exact hS6 | with_reducible assumption)
    (first | (go_at_call 50; refine (rsqrt_any _ _ (by omega) (by omega)).mono ?_; rintro e w' ⟨rfl, rfl⟩) | (go_at_call 51; refine (HK3.out _).mono ?_; rintro e w5 ⟨rfl, hb5⟩; have hS5 := thn (bdrew v2) hb5) | (go_at_call 47; refine (ra2_any _ _ _).mono ?_; rintro e w6 ⟨rfl, rfl⟩))
  go_wp2
  go_ret2
  exact ⟨by rw [HV.out]; show TwoInts _ _ = _; rw [show (rd (iabs (Y1 * Z2 - Z1 * Y2)) * rd (iabs (Y1 * Z2 - Z1 * Y2)) + rd (iabs (Z1 * X2 - X1 * Z2)) * rd (iabs (Z1 * X2 - X1 * Z2)) + rd (iabs (X1 * Y2 - Y1 * X2)) * rd (iabs (X1 * Y2 - Y1 * X2))) = csum (Y1 * Z2 - Z1 * Y2) (Z1 * X2 - X1 * Z2) (X1 * Y2 - Y1 * X2) from rfl, HE.out], thn HB2.out hS5⟩
theorem rdist_any (a b c d : Int) (w : World) :
    Calls Try.prog 23 #[posV a b, posV c d] w fun e w' => e = TwoInts (dstv a b c d).1 (dstv a b c d).2 ∧ Below w.heap.size w w' := by
  cases h1 : vd a b
  · have hh : dstv a b c d = (0, 1) := by simp [dstv, h1]
    rw [hh]
    exact rdist_a a b c d w h1
  cases h2 : vd c d
  · have hh : dstv a b c d = (0, 1) := by simp [dstv, h2]
    rw [hh]
    exact rdist_b a b c d w h1 h2
  · have hh : dstv a b c d = (dv a b c d, 0) := by simp [dstv, h1, h2]
    rw [hh]
    exact rdist_c a b c d w h1 h2
end Go.Proofs.Ytgcmmfclnialfaa
