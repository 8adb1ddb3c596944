/- The reference of package sphere: Local. -/
import Derived.Test.YtmlacekgmdlfjaaSphE
import Derived.Test.YtmlacekgmdlfjaaSphH
import Derived.Deep.RegionHeld3
import Derived.Deep.DeepCutAuto
namespace Go.Proofs.Ytmlacekgmdlfjaa
open Go.RowKit Go.Joins Fdk
set_option linter.unusedVariables false
theorem rdot_one {x y z p q r : Int} (hx : One1 x) (hy : One1 y) (hz : One1 z) (hp : One1 p) (hq : One1 q) (hr : One1 r) :
    ∀ w, Calls Try.prog 64 #[vecV x y z, vecV p q r] w fun e w' => e = .returned (.int .i64 (rd (x * p + y * q + z * r))) ∧ Below w.heap.size w w' := fun w => by
  have h1 := one_b hx.1 hx.2 hp.1 hp.2
  have h2 := one_b hy.1 hy.2 hq.1 hq.2
  have h3 := one_b hz.1 hz.2 hr.1 hr.2
  exact rdot_any x y z p q r w (by omega) (by omega) (by omega) (by omega) (by omega)
def rlx (b c d : Int) : Int := rd (cn b * rd (cn c * sn d) - sn b * rd (cn c * cn d))
def rly (a b c d : Int) : Int := rd (cn a * sn c - rd (sn a * cn b) * rd (cn c * cn d) - rd (sn a * sn b) * rd (cn c * sn d))
theorem rlx_eq (b c d : Int) : rlx b c d = lx b c d := by
  unfold rlx lx; congr 1; grind
theorem rly_eq (a b c d : Int) : rly a b c d = ly a b c d := by
  unfold rly ly; congr 1; grind
set_option maxHeartbeats 4000000 in
theorem rlocal_a (a b c d : Int) (w : World) (h1 : vd a b = false) :
    Calls Try.prog 41 #[posV a b, posV c d] w fun e w' => e = V4 (0, 0, 0, 1) ∧ Below w.heap.size w w' := by
  have HO := Lib.hid (show ofv a b = (0, 0, 0, 1) by simp [ofv, h1])
  clear h1
  go_enter Try.func41, Try.ntmps41
  go_wp2_with fail
  refine (rOf_any _ _ _).mono ?_
  rintro e w1 ⟨rfl, hb⟩
  have B := thn (below_alloc3 w _ _ _) hb
  have T := (((c2_new w (.int .i64 a) (.int .i64 b) 23).alc _).alc _).next hb
  have U := ((c2_new _ (.int .i64 c) (.int .i64 d) 23).alc _).next hb
  have Z := (c3_new _ (.int .i64 0) (.int .i64 0) (.int .i64 0) 44).next hb
  simp only [World.alloc, Array.size_push] at U Z
  clear hb
  obtain ⟨d0, d1, j0, j1, l1⟩ := id U
  rw [HO.out]
  have P := c3_new w1 (.int .i64 (0)) (.int .i64 (0)) (.int .i64 (0)) 44
  replace B := alc B (.cells #[.int .i64 (0), .int .i64 (0), .int .i64 (0)] 44)
  replace T := T.alc (.cells #[.int .i64 (0), .int .i64 (0), .int .i64 (0)] 44)
  replace U := U.alc (.cells #[.int .i64 (0), .int .i64 (0), .int .i64 (0)] 44)
  replace Z := Z.alc (.cells #[.int .i64 (0), .int .i64 (0), .int .i64 (0)] 44)
  have l2 : w.heap.size ≤ w1.heap.size := Nat.le_trans (Nat.le_succ_of_le (Nat.le_succ _)) l1
  go_wp2_with fail
  clear d0 d1 j0 j1 l1
  generalize w1.alloc (.cells #[.int .i64 (0), .int .i64 (0), .int .i64 (0)] 44) = v1 at *
  generalize w1.heap.size = bp at *
  refine (rOf_any _ _ _).mono ?_
  rintro e w2 ⟨rfl, hb⟩
  replace B := alc (thn B hb) (.cells #[.int .i64 (ofv c d).1, .int .i64 (ofv c d).2.1, .int .i64 (ofv c d).2.2.1] 44)
  replace Z := (Z.next hb).alc (.cells #[.int .i64 (ofv c d).1, .int .i64 (ofv c d).2.1, .int .i64 (ofv c d).2.2.1] 44)
  clear hb T U P
  obtain ⟨z0, z1, z2, f0, f1, f2, l⟩ := id Z
  go_wp2
  exact bodyPost_ret (v := .tuple #[vecV 0 0 0, .int .i64 1]) (by simp [results, Try.results41, go_sem, *]) rfl ⟨rfl, below_put3 B (b := w.heap.size + 1 + 1) (Nat.le_succ_of_le (Nat.le_succ _)) _ _ _⟩
set_option maxHeartbeats 4000000 in
theorem rlocal_b (a b c d : Int) (w : World) (h1 : vd a b = true) (h2 : vd c d = false) :
    Calls Try.prog 41 #[posV a b, posV c d] w fun e w' => e = V4 (0, 0, 0, 1) ∧ Below w.heap.size w w' := by
  have HO := Lib.hid (show ofv a b = (rd (cn a * cn b), rd (cn a * sn b), sn a, 0) by simp [ofv, h1])
  have HQ := Lib.hid (show ofv c d = (0, 0, 0, 1) by simp [ofv, h2])
  clear h1 h2
  go_enter Try.func41, Try.ntmps41
  go_wp2_with fail
  refine (rOf_any _ _ _).mono ?_
  rintro e w1 ⟨rfl, hb⟩
  have B := thn (below_alloc3 w _ _ _) hb
  have T := (((c2_new w (.int .i64 a) (.int .i64 b) 23).alc _).alc _).next hb
  have U := ((c2_new _ (.int .i64 c) (.int .i64 d) 23).alc _).next hb
  have Z := (c3_new _ (.int .i64 0) (.int .i64 0) (.int .i64 0) 44).next hb
  simp only [World.alloc, Array.size_push] at U Z
  clear hb
  obtain ⟨d0, d1, j0, j1, l1⟩ := id U
  rw [HO.out]
  have P := c3_new w1 (.int .i64 (rd (cn a * cn b))) (.int .i64 (rd (cn a * sn b))) (.int .i64 (sn a)) 44
  replace B := alc B (.cells #[.int .i64 (rd (cn a * cn b)), .int .i64 (rd (cn a * sn b)), .int .i64 (sn a)] 44)
  replace T := T.alc (.cells #[.int .i64 (rd (cn a * cn b)), .int .i64 (rd (cn a * sn b)), .int .i64 (sn a)] 44)
  replace U := U.alc (.cells #[.int .i64 (rd (cn a * cn b)), .int .i64 (rd (cn a * sn b)), .int .i64 (sn a)] 44)
  replace Z := Z.alc (.cells #[.int .i64 (rd (cn a * cn b)), .int .i64 (rd (cn a * sn b)), .int .i64 (sn a)] 44)
  have l2 : w.heap.size ≤ w1.heap.size := Nat.le_trans (Nat.le_succ_of_le (Nat.le_succ _)) l1
  go_wp2_with fail
  clear d0 d1 j0 j1 l1
  generalize w1.alloc (.cells #[.int .i64 (rd (cn a * cn b)), .int .i64 (rd (cn a * sn b)), .int .i64 (sn a)] 44) = v1 at *
  generalize w1.heap.size = bp at *
  refine (rOf_any _ _ _).mono ?_
  rintro e w2 ⟨rfl, hb⟩
  replace B := alc (thn B hb) (.cells #[.int .i64 (0), .int .i64 (0), .int .i64 (0)] 44)
  replace T := (T.next hb).alc (.cells #[.int .i64 (0), .int .i64 (0), .int .i64 (0)] 44)
  replace U := (U.next hb).alc (.cells #[.int .i64 (0), .int .i64 (0), .int .i64 (0)] 44)
  replace P := (P.next hb).alc (.cells #[.int .i64 (0), .int .i64 (0), .int .i64 (0)] 44)
  replace Z := (Z.next hb).alc (.cells #[.int .i64 (0), .int .i64 (0), .int .i64 (0)] 44)
  have Q := c3_new w2 (.int .i64 (0)) (.int .i64 (0)) (.int .i64 (0)) 44
  clear hb
  rw [HQ.out]
  clear T U P Q
  obtain ⟨z0, z1, z2, f0, f1, f2, l⟩ := id Z
  go_wp2
  exact bodyPost_ret (v := .tuple #[vecV 0 0 0, .int .i64 1]) (by simp [results, Try.results41, go_sem, *]) rfl ⟨rfl, below_put3 B (b := w.heap.size + 1 + 1) (Nat.le_succ_of_le (Nat.le_succ _)) _ _ _⟩
set_option maxHeartbeats 4000000 in
theorem rlocal_c (a b c d : Int) (w : World) (h1 : vd a b = true) (h2 : vd c d = true) :
    Calls Try.prog 41 #[posV a b, posV c d] w fun e w' => e = V4 (rlx b c d, rly a b c d, lz a b c d, 0) ∧ Below w.heap.size w w' := by
  have HO := Lib.hid (show ofv a b = (rd (cn a * cn b), rd (cn a * sn b), sn a, 0) by simp [ofv, h1])
  have HQ := Lib.hid (show ofv c d = (rd (cn c * cn d), rd (cn c * sn d), sn c, 0) by simp [ofv, h2])
  clear h1 h2
  go_enter Try.func41, Try.ntmps41
  go_wp2_with fail
  refine (rOf_any _ _ _).mono ?_
  rintro e w1 ⟨rfl, hb⟩
  have B := thn (below_alloc3 w _ _ _) hb
  have T := (((c2_new w (.int .i64 a) (.int .i64 b) 23).alc _).alc _).next hb
  have U := ((c2_new _ (.int .i64 c) (.int .i64 d) 23).alc _).next hb
  have Z := (c3_new _ (.int .i64 0) (.int .i64 0) (.int .i64 0) 44).next hb
  simp only [World.alloc, Array.size_push] at U Z
  clear hb
  obtain ⟨d0, d1, j0, j1, l1⟩ := id U
  rw [HO.out]
  have P := c3_new w1 (.int .i64 (rd (cn a * cn b))) (.int .i64 (rd (cn a * sn b))) (.int .i64 (sn a)) 44
  replace B := alc B (.cells #[.int .i64 (rd (cn a * cn b)), .int .i64 (rd (cn a * sn b)), .int .i64 (sn a)] 44)
  replace T := T.alc (.cells #[.int .i64 (rd (cn a * cn b)), .int .i64 (rd (cn a * sn b)), .int .i64 (sn a)] 44)
  replace U := U.alc (.cells #[.int .i64 (rd (cn a * cn b)), .int .i64 (rd (cn a * sn b)), .int .i64 (sn a)] 44)
  replace Z := Z.alc (.cells #[.int .i64 (rd (cn a * cn b)), .int .i64 (rd (cn a * sn b)), .int .i64 (sn a)] 44)
  have l2 : w.heap.size ≤ w1.heap.size := Nat.le_trans (Nat.le_succ_of_le (Nat.le_succ _)) l1
  go_wp2_with fail
  clear d0 d1 j0 j1 l1
  generalize w1.alloc (.cells #[.int .i64 (rd (cn a * cn b)), .int .i64 (rd (cn a * sn b)), .int .i64 (sn a)] 44) = v1 at *
  generalize w1.heap.size = bp at *
  refine (rOf_any _ _ _).mono ?_
  rintro e w2 ⟨rfl, hb⟩
  replace B := alc (thn B hb) (.cells #[.int .i64 (rd (cn c * cn d)), .int .i64 (rd (cn c * sn d)), .int .i64 (sn c)] 44)
  replace T := (T.next hb).alc (.cells #[.int .i64 (rd (cn c * cn d)), .int .i64 (rd (cn c * sn d)), .int .i64 (sn c)] 44)
  replace U := (U.next hb).alc (.cells #[.int .i64 (rd (cn c * cn d)), .int .i64 (rd (cn c * sn d)), .int .i64 (sn c)] 44)
  replace P := (P.next hb).alc (.cells #[.int .i64 (rd (cn c * cn d)), .int .i64 (rd (cn c * sn d)), .int .i64 (sn c)] 44)
  replace Z := (Z.next hb).alc (.cells #[.int .i64 (rd (cn c * cn d)), .int .i64 (rd (cn c * sn d)), .int .i64 (sn c)] 44)
  have Q := c3_new w2 (.int .i64 (rd (cn c * cn d))) (.int .i64 (rd (cn c * sn d))) (.int .i64 (sn c)) 44
  clear hb
  rw [HQ.out]
  obtain ⟨t0, t1, t2, t3, tl⟩ := id T
  go_wp2_with fail
  clear t0 t1 t2 t3 tl
  generalize w2.alloc (.cells #[.int .i64 (rd (cn c * cn d)), .int .i64 (rd (cn c * sn d)), .int .i64 (sn c)] 44) = v2 at *
  generalize w2.heap.size = bq at *
  refine (rslo_any _ _ _).mono ?_
  rintro e w3 ⟨rfl, hb⟩
  replace B := thn B hb
  replace T := T.next hb
  replace U := U.next hb
  replace P := P.next hb
  replace Q := Q.next hb
  replace Z := Z.next hb
  clear hb
  have bX1 := one_rd (cc_b a b)
  have bY1 := one_rd (cs_b a b)
  have bZ1 : One1 (sn a) := sn_b a
  have bX2 := one_rd (cc_b c d)
  have bY2 := one_rd (cs_b c d)
  have bZ2 : One1 (sn c) := sn_b c
  have bA := one_rd (sc_b a b)
  have bB := one_rd (ss_b a b)
  have bC : One1 (cn b) := cn_b b
  have bS : One1 (sn b) := sn_b b
  have bD : One1 (cn a) := cn_b a
  have ⟨p0, p1⟩ := one_b bC.1 bC.2 bY2.1 bY2.2
  have ⟨q0, q1⟩ := one_b bS.1 bS.2 bX2.1 bX2.2
  have ⟨r0, r1⟩ := one_b bD.1 bD.2 bZ2.1 bZ2.2
  have ⟨s0, s1⟩ := one_b bA.1 bA.2 bX2.1 bX2.2
  have ⟨u0, u1⟩ := one_b bB.1 bB.2 bY2.1 bY2.2
  have e1 : IntKind.i64.wrap (cn b * rd (cn c * sn d)) = cn b * rd (cn c * sn d) := IntWalk.i64_in _ (by omega)
  have e2 : IntKind.i64.wrap (sn b * rd (cn c * cn d)) = sn b * rd (cn c * cn d) := IntWalk.i64_in _ (by omega)
  have e3 : IntKind.i64.wrap (cn a * sn c) = cn a * sn c := IntWalk.i64_in _ (by omega)
  have e4 : IntKind.i64.wrap (rd (sn a * cn b) * rd (cn c * cn d)) = rd (sn a * cn b) * rd (cn c * cn d) := IntWalk.i64_in _ (by omega)
  have e5 : IntKind.i64.wrap (rd (sn a * sn b) * rd (cn c * sn d)) = rd (sn a * sn b) * rd (cn c * sn d) := IntWalk.i64_in _ (by omega)
  have HK3 := Lib.hid (rdot_one bX1 bY1 bZ1 bX2 bY2 bZ2)
  clear bX1 bY1 bZ1 bX2 bY2 bZ2 bA bB bC bS bD
  obtain ⟨t0, t1, t2, t3, tl⟩ := id T
  obtain ⟨k0, k1, k2, k3, k4, k5, kl⟩ := id Q
  go_wp2
  go_quiet (first | (go_at_call 36; exact quiet_same (rcos_any _ _)) | (go_at_call 35; exact quiet_same (rsin_any _ _)) | (go_at_call 55; exact quiet_same (rround_any _ _ (by omega) (by omega))))
  replace B := thn B (below_draws _ w3 nq)
  replace T := T.next (below_draws _ w3 nq)
  replace P := P.next (below_draws _ w3 nq)
  replace Q := Q.next (below_draws _ w3 nq)
  replace Z := Z.next (below_draws _ w3 nq)
  generalize w3.drewN nq = v3 at *
  clear t0 t1 t2 t3 tl k0 k1 k2 k3 k4 k5 kl
  obtain ⟨t0, t1, t2, t3, tl⟩ := id T
  obtain ⟨k0, k1, k2, k3, k4, k5, kl⟩ := id Q
  go_wp2
  go_quiet (first | (go_at_call 36; exact quiet_same (rcos_any _ _)) | (go_at_call 35; exact quiet_same (rsin_any _ _)) | (go_at_call 55; exact quiet_same (rround_any _ _ (by omega) (by omega))))
  replace B := thn B (below_draws _ v3 nq)
  replace T := T.next (below_draws _ v3 nq)
  replace P := P.next (below_draws _ v3 nq)
  replace Q := Q.next (below_draws _ v3 nq)
  replace Z := Z.next (below_draws _ v3 nq)
  generalize v3.drewN nq = v4 at *
  clear t0 t1 t2 t3 tl k0 k1 k2 k3 k4 k5 kl
  obtain ⟨k0, k1, k2, k3, k4, k5, kl⟩ := id Q
  obtain ⟨i0, i1, i2, i3, i4, i5, il⟩ := id P
  go_wp2_with fail
  refine (HK3.out _).mono ?_
  rintro e w5 ⟨rfl, hb⟩
  replace B := thn B hb
  replace Z := Z.next hb
  clear hb k0 k1 k2 k3 k4 k5 kl i0 i1 i2 i3 i4 i5 il P Q T U
  obtain ⟨z0, z1, z2, f0, f1, f2, l⟩ := id Z
  go_wp2
  exact bodyPost_ret (v := .tuple #[vecV (rlx b c d) (rly a b c d) (lz a b c d), .int .i64 0]) (by simp [results, Try.results41, go_sem, z0, z1, z2]; exact ⟨rfl, rfl, rfl⟩) rfl ⟨rfl, below_put3 B (b := w.heap.size + 1 + 1) (Nat.le_succ_of_le (Nat.le_succ _)) _ _ _⟩
theorem rLocal_any (a b c d : Int) (w : World) :
    Calls Try.prog 41 #[posV a b, posV c d] w fun e w' => e = V4 (lclv a b c d) ∧ Below w.heap.size w w' := by
  unfold lclv
  cases h1 : vd a b
  · exact rlocal_a a b c d w h1
  cases h2 : vd c d
  · exact rlocal_b a b c d w h1 h2
  · have h := rlocal_c a b c d w h1 h2
    rw [rlx_eq, rly_eq] at h
    exact h
end Go.Proofs.Ytmlacekgmdlfjaa
