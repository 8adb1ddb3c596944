/- Package sphere: the position at a distance. -/
import Derived.Test.YtmlacekgmdlfjaaSphF
import Derived.LoopN
import Derived.Deep.RegionHeld3
import Derived.Deep.DeepCutAuto
namespace Go.Proofs.Ytmlacekgmdlfjaa
open Go.RowKit Go.Joins Fdk
set_option linter.unusedVariables false
/-- the position at a distance, and the error. -/
def alv (a b t s : Int) : Int × Int × Int := if vd a b then (if s < 0 ∨ s > 64800000 then (0, 0, 2) else posn (rd ((rd (cn a * cn b)) * cn s + rd ((-sn b) * sn t + (-rd (sn a * cn b)) * cn t) * sn s)) (rd ((rd (cn a * sn b)) * cn s + rd ((cn b) * sn t + (-rd (sn a * sn b)) * cn t) * sn s)) (rd ((sn a) * cn s + rd ((0) * sn t + (cn a) * cn t) * sn s))) else (0, 0, 1)
set_option maxHeartbeats 1600000 in
theorem along_a (a b t s : Int) (w : World) (h1 : vd a b = false) :
    Calls Try.prog 23 #[posV a b, .int .i64 t, .int .i64 s] w fun e w' => e = Ps3 (alv a b t s) ∧ Below w.heap.size w w' := by
  have hh := Lib.hid (show alv a b t s = (0, 0, 1) by unfold alv; rw [if_neg (by rw [h1]; decide)])
  go_enter Try.func23, Try.ntmps23
  go_wp2_with fail
  refine (valid_any _ _ _).mono ?_
  rintro e w1 ⟨rfl, hb⟩
  have B := thn (below_alloc2 w _ _) hb
  have Z := (c2_new _ (.int .i64 0) (.int .i64 0) 23).next hb
  simp only [World.alloc, Array.size_push] at Z
  obtain ⟨z0, z1, z2, z3, zl⟩ := id Z
  rw [h1]
  go_wp2
  exact bodyPost_ret (v := .tuple #[posV 0 0, .int .i64 1]) (by simp [results, Try.results23, go_sem, *]) rfl ⟨ps3 hh.out.symm, below_put2 B (b := w.heap.size + 1) (Nat.le_succ _) _ _⟩
set_option maxHeartbeats 1600000 in
theorem along_b (a b t s : Int) (w : World) (h1 : vd a b = true) (h2 : s < 0) :
    Calls Try.prog 23 #[posV a b, .int .i64 t, .int .i64 s] w fun e w' => e = Ps3 (alv a b t s) ∧ Below w.heap.size w w' := by
  have hh := Lib.hid (show alv a b t s = (0, 0, 2) by unfold alv; rw [if_pos h1, if_pos (.inl h2)])
  go_enter Try.func23, Try.ntmps23
  go_wp2_with fail
  refine (valid_any _ _ _).mono ?_
  rintro e w1 ⟨rfl, hb⟩
  have B := thn (below_alloc2 w _ _) hb
  have Z := (c2_new _ (.int .i64 0) (.int .i64 0) 23).next hb
  simp only [World.alloc, Array.size_push] at Z
  obtain ⟨z0, z1, z2, z3, zl⟩ := id Z
  rw [h1]
  go_wp2
  exact bodyPost_ret (v := .tuple #[posV 0 0, .int .i64 2]) (by simp [results, Try.results23, go_sem, *]) rfl ⟨ps3 hh.out.symm, below_put2 B (b := w.heap.size + 1) (Nat.le_succ _) _ _⟩
set_option maxHeartbeats 1600000 in
theorem along_c (a b t s : Int) (w : World) (h1 : vd a b = true) (h2 : ¬ s < 0) (h3 : s > 64800000) :
    Calls Try.prog 23 #[posV a b, .int .i64 t, .int .i64 s] w fun e w' => e = Ps3 (alv a b t s) ∧ Below w.heap.size w w' := by
  have hh := Lib.hid (show alv a b t s = (0, 0, 2) by unfold alv; rw [if_pos h1, if_pos (.inr h3)])
  go_enter Try.func23, Try.ntmps23
  go_wp2_with fail
  refine (valid_any _ _ _).mono ?_
  rintro e w1 ⟨rfl, hb⟩
  have B := thn (below_alloc2 w _ _) hb
  have Z := (c2_new _ (.int .i64 0) (.int .i64 0) 23).next hb
  simp only [World.alloc, Array.size_push] at Z
  obtain ⟨z0, z1, z2, z3, zl⟩ := id Z
  rw [h1]
  go_wp2
  exact bodyPost_ret (v := .tuple #[posV 0 0, .int .i64 2]) (by simp [results, Try.results23, go_sem, *]) rfl ⟨ps3 hh.out.symm, below_put2 B (b := w.heap.size + 1) (Nat.le_succ _) _ _⟩
theorem rd_b2 {x : Int} (h0 : -2305843009213693952 ≤ x) (h1 : x ≤ 2305843009213693952) : -2147483648 ≤ rd x ∧ rd x ≤ 2147483648 := by unfold rd; omega
theorem two_b {x y : Int} (h0 : -2147483648 ≤ x) (h1 : x ≤ 2147483648) (h2 : -1073741824 ≤ y) (h3 : y ≤ 1073741824) : -2305843009213693952 ≤ x * y ∧ x * y ≤ 2305843009213693952 := by
  rcases Int.le_total 0 x with k | k
  · have k1 : x * y ≤ x * 1073741824 := Int.mul_le_mul_of_nonneg_left h3 k
    have k2 : x * -1073741824 ≤ x * y := Int.mul_le_mul_of_nonneg_left h2 k
    omega
  · have k1 : -x * y ≤ -x * 1073741824 := Int.mul_le_mul_of_nonneg_left h3 (by omega)
    have k2 : -x * -1073741824 ≤ -x * y := Int.mul_le_mul_of_nonneg_left h2 (by omega)
    have e : -x * y = -(x * y) := Int.neg_mul x y
    omega
set_option maxHeartbeats 20000000 in
theorem along_d0 (a b t s E0 E1 E2 N0 N1 N2 U0 U1 U2 : Int) (w : World) (h1 : vd a b = true) (h2 : ¬ s < 0) (h3 : ¬ s > 64800000)
    (bE0 : One1 E0) (bE1 : One1 E1) (bE2 : One1 E2) (bN0 : One1 N0) (bN1 : One1 N1) (bN2 : One1 N2) (bU0 : One1 U0) (bU1 : One1 U1) (bU2 : One1 U2)
    (hat : ∀ w, Calls Try.prog 49 #[posV a b] w fun e w' => e = .returned (.agg #[.int .i64 E0, .int .i64 E1, .int .i64 E2, .int .i64 N0, .int .i64 N1, .int .i64 N2, .int .i64 U0, .int .i64 U1, .int .i64 U2]) ∧ Below w.heap.size w w')
    (hh : Hid (alv a b t s = posn (rd (U0 * cn s + rd (E0 * sn t + N0 * cn t) * sn s)) (rd (U1 * cn s + rd (E1 * sn t + N1 * cn t) * sn s)) (rd (U2 * cn s + rd (E2 * sn t + N2 * cn t) * sn s)))) :
    Calls Try.prog 23 #[posV a b, .int .i64 t, .int .i64 s] w fun e w' => e = Ps3 (alv a b t s) ∧ Below w.heap.size w w' := by
  have HAT := Lib.hid hat
  clear hat
  go_enter Try.func23, Try.ntmps23
  go_wp2_with fail
  refine (valid_any _ _ _).mono ?_
  rintro e w1 ⟨rfl, hb⟩
  have B := thn (below_alloc2 w _ _) hb
  have T := ((c2_new w (.int .i64 a) (.int .i64 b) 23).alc _).next hb
  have Z := (c2_new _ (.int .i64 0) (.int .i64 0) 23).next hb
  simp only [World.alloc, Array.size_push] at Z
  obtain ⟨t0, t1, t2, t3, tl⟩ := id T
  rw [h1]
  go_wp2_with fail
  refine (HAT.out _).mono ?_
  rintro e w2 ⟨rfl, hb2⟩
  have FA := c9_new w2 (.int .i64 E0) (.int .i64 E1) (.int .i64 E2) (.int .i64 N0) (.int .i64 N1) (.int .i64 N2) (.int .i64 U0) (.int .i64 U1) (.int .i64 U2) 57
  have B3 := Lib.hid (alc (thn B hb2) (.cells #[.int .i64 E0, .int .i64 E1, .int .i64 E2, .int .i64 N0, .int .i64 N1, .int .i64 N2, .int .i64 U0, .int .i64 U1, .int .i64 U2] 57))
  have Z3 := Lib.hid ((Z.next hb2).alc (.cells #[.int .i64 E0, .int .i64 E1, .int .i64 E2, .int .i64 N0, .int .i64 N1, .int .i64 N2, .int .i64 U0, .int .i64 U1, .int .i64 U2] 57))
  have Z2 := Z.next hb2
  have B2 := thn B hb2
  clear hb hb2 t0 t1 t2 t3 tl T Z B
  have bST : One1 (sn t) := sn_b t
  have bCT : One1 (cn t) := cn_b t
  have bSS : One1 (sn s) := sn_b s
  have bCS : One1 (cn s) := cn_b s
  go_wp2_with (first | (go_at_call 27; refine (cos_any _ _).mono ?_; rintro e w' ⟨rfl, rfl⟩) | (go_at_call 26; refine (sin_any _ _).mono ?_; rintro e w' ⟨rfl, rfl⟩))
  generalize sn t = ST at *
  generalize cn t = CT at *
  generalize sn s = SS at *
  generalize cn s = CS at *
  refine wp_loop_rounds 4 ?_
  have HNF := Lib.hid (show w2.heap.size + 1 ≠ w2.heap.size from Nat.succ_ne_self _)
  have HNZ := Lib.hid (show w2.heap.size + 1 ≠ w.heap.size + 1 from fun h => absurd (Z2.lt) (by omega))
  have HBV := Lib.hid (show w.heap.size ≤ w2.heap.size + 1 from Nat.le_succ_of_le B2.size)
  clear Z2 B2
  have V := c3_new (w2.alloc (.cells #[.int .i64 E0, .int .i64 E1, .int .i64 E2, .int .i64 N0, .int .i64 N1, .int .i64 N2, .int .i64 U0, .int .i64 U1, .int .i64 U2] 57)) (.int .i64 0) (.int .i64 0) (.int .i64 0) 44
  replace FA := FA.alc (.cells #[.int .i64 0, .int .i64 0, .int .i64 0] 44)
  have B4 := Lib.hid (alc B3.out (.cells #[.int .i64 0, .int .i64 0, .int .i64 0] 44))
  have Z4 := Lib.hid (Z3.out.alc (.cells #[.int .i64 0, .int .i64 0, .int .i64 0] 44))
  clear B3 Z3 HAT
  rw [show (w2.alloc (.cells #[.int .i64 E0, .int .i64 E1, .int .i64 E2, .int .i64 N0, .int .i64 N1, .int .i64 N2, .int .i64 U0, .int .i64 U1, .int .i64 U2] 57)).heap.size = w2.heap.size + 1 by simp] at V
  generalize w2.heap.size = bf at *
  generalize (w2.alloc (.cells #[.int .i64 E0, .int .i64 E1, .int .i64 E2, .int .i64 N0, .int .i64 N1, .int .i64 N2, .int .i64 U0, .int .i64 U1, .int .i64 U2] 57)).alloc (.cells #[.int .i64 0, .int .i64 0, .int .i64 0] 44) = v0 at *
  obtain ⟨g0, g1, g2, g3, g4, g5, gl⟩ := id V
  obtain ⟨m0, m1, m2, m3, m4, m5, m6, m7, m8, f0, f1, f2, f3, f4, f5, f6, f7, f8, lm⟩ := id FA
  have ⟨p0, p1⟩ := one_b bE0.1 bE0.2 bST.1 bST.2
  have ⟨q0, q1⟩ := one_b bN0.1 bN0.2 bCT.1 bCT.2
  have ⟨r0, r1⟩ := one_b bU0.1 bU0.2 bCS.1 bCS.2
  have e1 : IntKind.i64.wrap (E0 * ST) = E0 * ST := IntWalk.i64_in _ (by omega)
  have e2 : IntKind.i64.wrap (N0 * CT) = N0 * CT := IntWalk.i64_in _ (by omega)
  have e3 : IntKind.i64.wrap (U0 * CS) = U0 * CS := IntWalk.i64_in _ (by omega)
  have e4 : IntKind.i64.wrap (E0 * ST + N0 * CT) = E0 * ST + N0 * CT := IntWalk.i64_in _ (by omega)
  have ⟨d0, d1⟩ := rd_b2 (x := E0 * ST + N0 * CT) (by omega) (by omega)
  have ⟨s0, s1⟩ := two_b d0 d1 bSS.1 bSS.2
  have e5 : IntKind.i64.wrap (rd (E0 * ST + N0 * CT) * SS) = rd (E0 * ST + N0 * CT) * SS := IntWalk.i64_in _ (by omega)
  have e6 : IntKind.i64.wrap (U0 * CS + rd (E0 * ST + N0 * CT) * SS) = U0 * CS + rd (E0 * ST + N0 * CT) * SS := IntWalk.i64_in _ (by omega)
  rw [rounds_succ]
  go_wp2
  go_quiet (first | (go_at_call 43; exact quiet_same (round_any _ _ (by omega) (by omega))))
  replace FA := FA.next (below_draws _ v0 nq)
  replace V := V.next (below_draws _ v0 nq)
  have B4b := Lib.hid (thn B4.out (below_draws _ v0 nq))
  have Z4b := Lib.hid (Z4.out.next (below_draws _ v0 nq))
  generalize v0.drewN nq = u0 at *
  clear g0 g1 g2 g3 g4 g5 gl m0 m1 m2 m3 m4 m5 m6 m7 m8 f0 f1 f2 f3 f4 f5 f6 f7 f8 lm
  obtain ⟨g0, g1, g2, g3, g4, g5, gl⟩ := id V
  obtain ⟨m0, m1, m2, m3, m4, m5, m6, m7, m8, f0, f1, f2, f3, f4, f5, f6, f7, f8, lm⟩ := id FA
  go_wp2_with (go_at_call 43; refine (round_any _ _ (by omega) (by omega)).mono ?_; rintro e w' ⟨rfl, rfl⟩)
  replace FA := FA.else (p := ⟨bf + 1, 0, none⟩) HNF.out (.int .i64 (rd (U0 * CS + rd (E0 * ST + N0 * CT) * SS)))
  replace V := V.put0 (.int .i64 (rd (U0 * CS + rd (E0 * ST + N0 * CT) * SS)))
  have B5 := Lib.hid (B4b.out.setCell (p := ⟨bf + 1, 0, none⟩) HBV.out (.int .i64 (rd (U0 * CS + rd (E0 * ST + N0 * CT) * SS))))
  have Z5 := Lib.hid (Z4b.out.else (p := ⟨bf + 1, 0, none⟩) HNZ.out (.int .i64 (rd (U0 * CS + rd (E0 * ST + N0 * CT) * SS))))
  clear g0 g1 g2 g3 g4 g5 gl m0 m1 m2 m3 m4 m5 m6 m7 m8 f0 f1 f2 f3 f4 f5 f6 f7 f8 lm e1 e2 e3 e4 e5 e6 p0 p1 q0 q1 r0 r1 d0 d1 s0 s1
  generalize u0.setCell ⟨bf + 1, 0, none⟩ (.int .i64 (rd (U0 * CS + rd (E0 * ST + N0 * CT) * SS))) = v1 at *
  obtain ⟨g0, g1, g2, g3, g4, g5, gl⟩ := id V
  obtain ⟨m0, m1, m2, m3, m4, m5, m6, m7, m8, f0, f1, f2, f3, f4, f5, f6, f7, f8, lm⟩ := id FA
  have ⟨p0, p1⟩ := one_b bE1.1 bE1.2 bST.1 bST.2
  have ⟨q0, q1⟩ := one_b bN1.1 bN1.2 bCT.1 bCT.2
  have ⟨r0, r1⟩ := one_b bU1.1 bU1.2 bCS.1 bCS.2
  have e1 : IntKind.i64.wrap (E1 * ST) = E1 * ST := IntWalk.i64_in _ (by omega)
  have e2 : IntKind.i64.wrap (N1 * CT) = N1 * CT := IntWalk.i64_in _ (by omega)
  have e3 : IntKind.i64.wrap (U1 * CS) = U1 * CS := IntWalk.i64_in _ (by omega)
  have e4 : IntKind.i64.wrap (E1 * ST + N1 * CT) = E1 * ST + N1 * CT := IntWalk.i64_in _ (by omega)
  have ⟨d0, d1⟩ := rd_b2 (x := E1 * ST + N1 * CT) (by omega) (by omega)
  have ⟨s0, s1⟩ := two_b d0 d1 bSS.1 bSS.2
  have e5 : IntKind.i64.wrap (rd (E1 * ST + N1 * CT) * SS) = rd (E1 * ST + N1 * CT) * SS := IntWalk.i64_in _ (by omega)
  have e6 : IntKind.i64.wrap (U1 * CS + rd (E1 * ST + N1 * CT) * SS) = U1 * CS + rd (E1 * ST + N1 * CT) * SS := IntWalk.i64_in _ (by omega)
  rw [rounds_succ]
  go_wp2
  go_quiet (first | (go_at_call 43; exact quiet_same (round_any _ _ (by omega) (by omega))))
  replace FA := FA.next (below_draws _ v1 nq)
  replace V := V.next (below_draws _ v1 nq)
  have B5b := Lib.hid (thn B5.out (below_draws _ v1 nq))
  have Z5b := Lib.hid (Z5.out.next (below_draws _ v1 nq))
  generalize v1.drewN nq = u1 at *
  clear g0 g1 g2 g3 g4 g5 gl m0 m1 m2 m3 m4 m5 m6 m7 m8 f0 f1 f2 f3 f4 f5 f6 f7 f8 lm
  obtain ⟨g0, g1, g2, g3, g4, g5, gl⟩ := id V
  obtain ⟨m0, m1, m2, m3, m4, m5, m6, m7, m8, f0, f1, f2, f3, f4, f5, f6, f7, f8, lm⟩ := id FA
  go_wp2_with (go_at_call 43; refine (round_any _ _ (by omega) (by omega)).mono ?_; rintro e w' ⟨rfl, rfl⟩)
  replace FA := FA.else (p := ⟨bf + 1, 1, none⟩) HNF.out (.int .i64 (rd (U1 * CS + rd (E1 * ST + N1 * CT) * SS)))
  replace V := V.put1 (.int .i64 (rd (U1 * CS + rd (E1 * ST + N1 * CT) * SS)))
  have B6 := Lib.hid (B5b.out.setCell (p := ⟨bf + 1, 1, none⟩) HBV.out (.int .i64 (rd (U1 * CS + rd (E1 * ST + N1 * CT) * SS))))
  have Z6 := Lib.hid (Z5b.out.else (p := ⟨bf + 1, 1, none⟩) HNZ.out (.int .i64 (rd (U1 * CS + rd (E1 * ST + N1 * CT) * SS))))
  clear g0 g1 g2 g3 g4 g5 gl m0 m1 m2 m3 m4 m5 m6 m7 m8 f0 f1 f2 f3 f4 f5 f6 f7 f8 lm e1 e2 e3 e4 e5 e6 p0 p1 q0 q1 r0 r1 d0 d1 s0 s1
  generalize u1.setCell ⟨bf + 1, 1, none⟩ (.int .i64 (rd (U1 * CS + rd (E1 * ST + N1 * CT) * SS))) = v2 at *
  obtain ⟨g0, g1, g2, g3, g4, g5, gl⟩ := id V
  obtain ⟨m0, m1, m2, m3, m4, m5, m6, m7, m8, f0, f1, f2, f3, f4, f5, f6, f7, f8, lm⟩ := id FA
  have ⟨p0, p1⟩ := one_b bE2.1 bE2.2 bST.1 bST.2
  have ⟨q0, q1⟩ := one_b bN2.1 bN2.2 bCT.1 bCT.2
  have ⟨r0, r1⟩ := one_b bU2.1 bU2.2 bCS.1 bCS.2
  have e1 : IntKind.i64.wrap (E2 * ST) = E2 * ST := IntWalk.i64_in _ (by omega)
  have e2 : IntKind.i64.wrap (N2 * CT) = N2 * CT := IntWalk.i64_in _ (by omega)
  have e3 : IntKind.i64.wrap (U2 * CS) = U2 * CS := IntWalk.i64_in _ (by omega)
  have e4 : IntKind.i64.wrap (E2 * ST + N2 * CT) = E2 * ST + N2 * CT := IntWalk.i64_in _ (by omega)
  have ⟨d0, d1⟩ := rd_b2 (x := E2 * ST + N2 * CT) (by omega) (by omega)
  have ⟨s0, s1⟩ := two_b d0 d1 bSS.1 bSS.2
  have e5 : IntKind.i64.wrap (rd (E2 * ST + N2 * CT) * SS) = rd (E2 * ST + N2 * CT) * SS := IntWalk.i64_in _ (by omega)
  have e6 : IntKind.i64.wrap (U2 * CS + rd (E2 * ST + N2 * CT) * SS) = U2 * CS + rd (E2 * ST + N2 * CT) * SS := IntWalk.i64_in _ (by omega)
  rw [rounds_succ]
  go_wp2
  go_quiet (first | (go_at_call 43; exact quiet_same (round_any _ _ (by omega) (by omega))))
  replace FA := FA.next (below_draws _ v2 nq)
  replace V := V.next (below_draws _ v2 nq)
  have B6b := Lib.hid (thn B6.out (below_draws _ v2 nq))
  have Z6b := Lib.hid (Z6.out.next (below_draws _ v2 nq))
  generalize v2.drewN nq = u2 at *
  clear g0 g1 g2 g3 g4 g5 gl m0 m1 m2 m3 m4 m5 m6 m7 m8 f0 f1 f2 f3 f4 f5 f6 f7 f8 lm
  obtain ⟨g0, g1, g2, g3, g4, g5, gl⟩ := id V
  obtain ⟨m0, m1, m2, m3, m4, m5, m6, m7, m8, f0, f1, f2, f3, f4, f5, f6, f7, f8, lm⟩ := id FA
  go_wp2_with (go_at_call 43; refine (round_any _ _ (by omega) (by omega)).mono ?_; rintro e w' ⟨rfl, rfl⟩)
  replace FA := FA.else (p := ⟨bf + 1, 2, none⟩) HNF.out (.int .i64 (rd (U2 * CS + rd (E2 * ST + N2 * CT) * SS)))
  replace V := V.put2 (.int .i64 (rd (U2 * CS + rd (E2 * ST + N2 * CT) * SS)))
  have B7 := Lib.hid (B6b.out.setCell (p := ⟨bf + 1, 2, none⟩) HBV.out (.int .i64 (rd (U2 * CS + rd (E2 * ST + N2 * CT) * SS))))
  have Z7 := Lib.hid (Z6b.out.else (p := ⟨bf + 1, 2, none⟩) HNZ.out (.int .i64 (rd (U2 * CS + rd (E2 * ST + N2 * CT) * SS))))
  clear g0 g1 g2 g3 g4 g5 gl m0 m1 m2 m3 m4 m5 m6 m7 m8 f0 f1 f2 f3 f4 f5 f6 f7 f8 lm e1 e2 e3 e4 e5 e6 p0 p1 q0 q1 r0 r1 d0 d1 s0 s1
  generalize u2.setCell ⟨bf + 1, 2, none⟩ (.int .i64 (rd (U2 * CS + rd (E2 * ST + N2 * CT) * SS))) = v3 at *
  obtain ⟨g0, g1, g2, g3, g4, g5, gl⟩ := id V
  rw [rounds_succ]
  go_wp2_with fail
  refine (pos_any _ _ _ _).mono ?_
  rintro e w5 ⟨rfl, hb5⟩
  have B8 := Lib.hid (thn B7.out hb5)
  have Z8 := Z7.out.next hb5
  clear hb5 g0 g1 g2 g3 g4 g5 gl V FA
  obtain ⟨z0, z1, z2, z3, zl⟩ := id Z8
  generalize posn (rd (U0 * CS + rd (E0 * ST + N0 * CT) * SS)) (rd (U1 * CS + rd (E1 * ST + N1 * CT) * SS)) (rd (U2 * CS + rd (E2 * ST + N2 * CT) * SS)) = R at *
  go_wp2
  exact bodyPost_ret (v := .tuple #[posV R.1 R.2.1, .int .i64 R.2.2]) (by simp [results, Try.results23, go_sem, *]) rfl ⟨ps3 hh.out.symm, below_put2 B8.out (b := w.heap.size + 1) (Nat.le_succ _) _ _⟩
theorem along_any (a b t s : Int) (w : World) :
    Calls Try.prog 23 #[posV a b, .int .i64 t, .int .i64 s] w fun e w' => e = Ps3 (alv a b t s) ∧ Below w.heap.size w w' := by
  cases h1 : vd a b
  · exact along_a a b t s w h1
  by_cases h2 : s < 0
  · exact along_b a b t s w h1 h2
  by_cases h3 : s > 64800000
  · exact along_c a b t s w h1 h2 h3
  · have hh := Lib.hid (show alv a b t s = posn (rd ((rd (cn a * cn b)) * cn s + rd ((-sn b) * sn t + (-rd (sn a * cn b)) * cn t) * sn s)) (rd ((rd (cn a * sn b)) * cn s + rd ((cn b) * sn t + (-rd (sn a * sn b)) * cn t) * sn s)) (rd ((sn a) * cn s + rd ((0) * sn t + (cn a) * cn t) * sn s)) by unfold alv; rw [if_pos h1, if_neg (by omega)])
    exact along_d0 a b t s _ _ _ _ _ _ _ _ _ w h1 h2 h3 (one_neg (sn_b b)) (cn_b b) one_0 (one_neg (one_rd (sc_b a b))) (one_neg (one_rd (ss_b a b))) (cn_b a) (one_rd (cc_b a b)) (one_rd (cs_b a b)) (sn_b a) (fun w => at_any a b w) hh
end Go.Proofs.Ytmlacekgmdlfjaa
