/- Package plane: the position of a point. -/
import Derived.Test.YtmlacekgmdlfjaaPlnB
import Derived.Test.YtmlacekgmdlfjaaSphR
import Derived.LoopN
import Derived.Deep.RegionHeld3
import Derived.Deep.DeepCutAuto
namespace Go.Proofs.Ytmlacekgmdlfjaa
open Go.RowKit Go.Joins Fdk
set_option linter.unusedVariables false
theorem pround_any (x : Int) (w : World) (h0 : -9223372036317904896 ≤ x) (h1 : x ≤ 9223372036317904895) :
    Calls Try.prog 28 #[.int .i64 x] w fun e w' => e = .returned (.int .i64 (rd x)) ∧ w = w' := by
  go_enter Try.func28, Try.ntmps28
  go_wp2
  go_ret
  exact ⟨rfl, rfl⟩
/-- the position of a point, and the error. -/
def frv (a b x y : Int) : Int × Int × Int := if org a b then (if pvd x y then posn (qnear (20626481 * rd (cn a * cn b) - sn b * x - rd (sn a * cn b) * y) 20626481) (qnear (20626481 * rd (cn a * sn b) + cn b * x - rd (sn a * sn b) * y) 20626481) (qnear (20626481 * sn a + cn a * y) 20626481) else (0, 0, 2)) else (0, 0, 1)
set_option maxHeartbeats 8000000 in
theorem from_a (a b x y : Int) (w : World) (h1 : org a b = false) :
    Calls Try.prog 14 #[posV a b, ptV x y] w fun e w' => e = Ps3 (0, 0, 1) ∧ Below w.heap.size w w' := by
  go_enter Try.func14, Try.ntmps14
  go_wp2_with fail
  refine (isorg_any _ _ _).mono ?_
  rintro e w1 ⟨rfl, hb⟩
  have B := thn (below_alloc3 w _ _ _) hb
  have T := (((c2_new w (.int .i64 a) (.int .i64 b) 23).alc _).alc _).next hb
  have U := ((c2_new _ (.int .i64 x) (.int .i64 y) 25).alc _).next hb
  have Z := (c2_new _ (.int .i64 0) (.int .i64 0) 23).next hb
  simp only [World.alloc, Array.size_push] at U Z
  clear hb
  rw [h1]
  obtain ⟨z0, z1, z2, z3, zl⟩ := id Z
  go_wp2
  exact bodyPost_ret (v := .tuple #[posV 0 0, .int .i64 1]) (by simp [results, Try.results14, go_sem, *]) rfl ⟨rfl, below_put2 B (b := w.heap.size + 1 + 1) (Nat.le_succ_of_le (Nat.le_succ _)) _ _⟩
set_option maxHeartbeats 8000000 in
theorem from_b (a b x y : Int) (w : World) (h1 : org a b = true) (h2 : pvd x y = false) :
    Calls Try.prog 14 #[posV a b, ptV x y] w fun e w' => e = Ps3 (0, 0, 2) ∧ Below w.heap.size w w' := by
  go_enter Try.func14, Try.ntmps14
  go_wp2_with fail
  refine (isorg_any _ _ _).mono ?_
  rintro e w1 ⟨rfl, hb⟩
  have B := thn (below_alloc3 w _ _ _) hb
  have T := (((c2_new w (.int .i64 a) (.int .i64 b) 23).alc _).alc _).next hb
  have U := ((c2_new _ (.int .i64 x) (.int .i64 y) 25).alc _).next hb
  have Z := (c2_new _ (.int .i64 0) (.int .i64 0) 23).next hb
  simp only [World.alloc, Array.size_push] at U Z
  clear hb
  rw [h1]
  obtain ⟨u0, u1, u2, u3, ul⟩ := id U
  go_wp2_with fail
  clear u0 u1 u2 u3 ul
  refine (pvalid_any _ _ _).mono ?_
  rintro e w2 ⟨rfl, hb⟩
  replace B := thn B hb
  replace T := T.next hb
  replace U := U.next hb
  replace Z := Z.next hb
  clear hb
  rw [h2]
  obtain ⟨z0, z1, z2, z3, zl⟩ := id Z
  go_wp2
  exact bodyPost_ret (v := .tuple #[posV 0 0, .int .i64 2]) (by simp [results, Try.results14, go_sem, *]) rfl ⟨rfl, below_put2 B (b := w.heap.size + 1 + 1) (Nat.le_succ_of_le (Nat.le_succ _)) _ _⟩
set_option maxRecDepth 4000 in
set_option maxHeartbeats 8000000 in
theorem from_c (a b x y : Int) (w : World) (h1 : org a b = true) (h2 : pvd x y = true) :
    Calls Try.prog 14 #[posV a b, ptV x y] w fun e w' => e = Ps3 (posn (qnear (20626481 * rd (cn a * cn b) - sn b * x - rd (sn a * cn b) * y) 20626481) (qnear (20626481 * rd (cn a * sn b) + cn b * x - rd (sn a * sn b) * y) 20626481) (qnear (20626481 * sn a + cn a * y) 20626481)) ∧ Below w.heap.size w w' := by
  have HO := Lib.hid (show ofv a b = (rd (cn a * cn b), rd (cn a * sn b), sn a, 0) by unfold ofv; rw [if_pos (org_vd h1)])
  generalize hR : posn (qnear (20626481 * rd (cn a * cn b) - sn b * x - rd (sn a * cn b) * y) 20626481) (qnear (20626481 * rd (cn a * sn b) + cn b * x - rd (sn a * sn b) * y) 20626481) (qnear (20626481 * sn a + cn a * y) 20626481) = R
  have HR := Lib.hid hR
  clear hR
  go_enter Try.func14, Try.ntmps14
  go_wp2_with fail
  refine (isorg_any _ _ _).mono ?_
  rintro e w1 ⟨rfl, hb⟩
  have B := thn (below_alloc3 w _ _ _) hb
  have T := (((c2_new w (.int .i64 a) (.int .i64 b) 23).alc _).alc _).next hb
  have U := ((c2_new _ (.int .i64 x) (.int .i64 y) 25).alc _).next hb
  have Z := (c2_new _ (.int .i64 0) (.int .i64 0) 23).next hb
  simp only [World.alloc, Array.size_push] at U Z
  clear hb
  rw [h1]
  obtain ⟨u0, u1, u2, u3, ul⟩ := id U
  go_wp2_with fail
  clear u0 u1 u2 u3 ul
  refine (pvalid_any _ _ _).mono ?_
  rintro e w2 ⟨rfl, hb⟩
  replace B := thn B hb
  replace T := T.next hb
  replace U := U.next hb
  replace Z := Z.next hb
  clear hb
  rw [h2]
  obtain ⟨t0, t1, t2, t3, tl⟩ := id T
  go_wp2_with fail
  clear t0 t1 t2 t3 tl
  refine (Of_any _ _ _).mono ?_
  rintro e w3 ⟨rfl, hb⟩
  replace B := alc (thn B hb) (.cells #[.int .i64 (rd (cn a * cn b)), .int .i64 (rd (cn a * sn b)), .int .i64 (sn a)] 44)
  replace T := (T.next hb).alc (.cells #[.int .i64 (rd (cn a * cn b)), .int .i64 (rd (cn a * sn b)), .int .i64 (sn a)] 44)
  replace U := (U.next hb).alc (.cells #[.int .i64 (rd (cn a * cn b)), .int .i64 (rd (cn a * sn b)), .int .i64 (sn a)] 44)
  replace Z := (Z.next hb).alc (.cells #[.int .i64 (rd (cn a * cn b)), .int .i64 (rd (cn a * sn b)), .int .i64 (sn a)] 44)
  have V := c3_new w3 (.int .i64 (rd (cn a * cn b))) (.int .i64 (rd (cn a * sn b))) (.int .i64 (sn a)) 44
  clear hb
  rw [HO.out]
  have ⟨⟨x0, x1⟩, y0, y1⟩ := pvd_of h2
  have bX1 := one_rd (cc_b a b)
  have bY1 := one_rd (cs_b a b)
  have bZ1 : One1 (sn a) := sn_b a
  have ⟨p0, p1⟩ := sc_b a b
  have ⟨p2, p3⟩ := ss_b a b
  have bA := one_rd (sc_b a b)
  have bB := one_rd (ss_b a b)
  have bC : One1 (cn b) := cn_b b
  have bS : One1 (sn b) := sn_b b
  have bD : One1 (cn a) := cn_b a
  have e1 : IntKind.i64.wrap (sn a * cn b) = sn a * cn b := IntWalk.i64_in _ (by omega)
  have e2 : IntKind.i64.wrap (sn a * sn b) = sn a * sn b := IntWalk.i64_in _ (by omega)
  obtain ⟨t0, t1, t2, t3, tl⟩ := id T
  obtain ⟨u0, u1, u2, u3, ul⟩ := id U
  obtain ⟨v0, v1, v2, v3, v4, v5, vl⟩ := id V
  go_wp2_with (first | (go_at_call 27; refine (cos_any _ _).mono ?_; rintro e w' ⟨rfl, rfl⟩) | (go_at_call 26; refine (sin_any _ _).mono ?_; rintro e w' ⟨rfl, rfl⟩))
  clear t0 t1 t2 t3 tl u0 u1 u2 u3 ul v0 v1 v2 v3 v4 v5 vl
  generalize w3.alloc (.cells #[.int .i64 (rd (cn a * cn b)), .int .i64 (rd (cn a * sn b)), .int .i64 (sn a)] 44) = y0w at *
  generalize w3.heap.size = bv at *
  obtain ⟨t0, t1, t2, t3, tl⟩ := id T
  obtain ⟨u0, u1, u2, u3, ul⟩ := id U
  obtain ⟨v0, v1, v2, v3, v4, v5, vl⟩ := id V
  go_quiet (first | (go_at_call 26; exact quiet_same (sin_any _ _)) | (go_at_call 27; exact quiet_same (cos_any _ _)))
  clear t0 t1 t2 t3 tl u0 u1 u2 u3 ul v0 v1 v2 v3 v4 v5 vl
  replace T := T.next (below_draws _ y0w nq)
  replace U := U.next (below_draws _ y0w nq)
  replace Z := Z.next (below_draws _ y0w nq)
  replace V := V.next (below_draws _ y0w nq)
  replace B := thn B (below_draws _ y0w nq)
  generalize y0w.drewN nq = y1w at *
  obtain ⟨t0, t1, t2, t3, tl⟩ := id T
  obtain ⟨u0, u1, u2, u3, ul⟩ := id U
  obtain ⟨v0, v1, v2, v3, v4, v5, vl⟩ := id V
  go_wp2
  go_quiet (first | (go_at_call 26; exact quiet_same (sin_any _ _)) | (go_at_call 27; exact quiet_same (cos_any _ _)))
  clear t0 t1 t2 t3 tl u0 u1 u2 u3 ul v0 v1 v2 v3 v4 v5 vl
  replace T := T.next (below_draws _ y1w nq)
  replace U := U.next (below_draws _ y1w nq)
  replace Z := Z.next (below_draws _ y1w nq)
  replace V := V.next (below_draws _ y1w nq)
  replace B := thn B (below_draws _ y1w nq)
  generalize y1w.drewN nq = y2w at *
  obtain ⟨t0, t1, t2, t3, tl⟩ := id T
  obtain ⟨u0, u1, u2, u3, ul⟩ := id U
  obtain ⟨v0, v1, v2, v3, v4, v5, vl⟩ := id V
  go_wp2
  have ⟨q0, q1⟩ := pb (p := sn b) (q := x) 2147483648000000 ⟨bS.1, bS.2⟩ ⟨x0, x1⟩ (by omega) (by decide)
  have ⟨q2, q3⟩ := pb (p := cn b) (q := x) 2147483648000000 ⟨bC.1, bC.2⟩ ⟨x0, x1⟩ (by omega) (by decide)
  have ⟨q4, q5⟩ := pb (p := rd (sn a * cn b)) (q := y) 2147483648000000 ⟨bA.1, bA.2⟩ ⟨y0, y1⟩ (by omega) (by decide)
  have ⟨q6, q7⟩ := pb (p := rd (sn a * sn b)) (q := y) 2147483648000000 ⟨bB.1, bB.2⟩ ⟨y0, y1⟩ (by omega) (by decide)
  have ⟨q8, q9⟩ := pb (p := cn a) (q := y) 2147483648000000 ⟨bD.1, bD.2⟩ ⟨y0, y1⟩ (by omega) (by decide)
  have ⟨k0, k1⟩ := bX1
  have ⟨k2, k3⟩ := bY1
  have ⟨k4, k5⟩ := bZ1
  have g0 : IntKind.i64.wrap (sn b * x) = sn b * x := IntWalk.i64_in _ (by omega)
  have g1 : IntKind.i64.wrap (cn b * x) = cn b * x := IntWalk.i64_in _ (by omega)
  have g2 : IntKind.i64.wrap (rd (sn a * cn b) * y) = rd (sn a * cn b) * y := IntWalk.i64_in _ (by omega)
  have g3 : IntKind.i64.wrap (rd (sn a * sn b) * y) = rd (sn a * sn b) * y := IntWalk.i64_in _ (by omega)
  have g4 : IntKind.i64.wrap (cn a * y) = cn a * y := IntWalk.i64_in _ (by omega)
  have g5 : IntKind.i64.wrap (20626481 * rd (cn a * cn b)) = 20626481 * rd (cn a * cn b) := IntWalk.i64_in _ (by omega)
  have g6 : IntKind.i64.wrap (20626481 * rd (cn a * sn b)) = 20626481 * rd (cn a * sn b) := IntWalk.i64_in _ (by omega)
  have g7 : IntKind.i64.wrap (20626481 * sn a) = 20626481 * sn a := IntWalk.i64_in _ (by omega)
  have g8 : IntKind.i64.wrap (20626481 * rd (cn a * cn b) - sn b * x) = 20626481 * rd (cn a * cn b) - sn b * x := IntWalk.i64_in _ (by omega)
  have g9 : IntKind.i64.wrap (20626481 * rd (cn a * sn b) + cn b * x) = 20626481 * rd (cn a * sn b) + cn b * x := IntWalk.i64_in _ (by omega)
  have g10 : IntKind.i64.wrap (20626481 * rd (cn a * cn b) - sn b * x - rd (sn a * cn b) * y) = 20626481 * rd (cn a * cn b) - sn b * x - rd (sn a * cn b) * y := IntWalk.i64_in _ (by omega)
  have g11 : IntKind.i64.wrap (20626481 * rd (cn a * sn b) + cn b * x - rd (sn a * sn b) * y) = 20626481 * rd (cn a * sn b) + cn b * x - rd (sn a * sn b) * y := IntWalk.i64_in _ (by omega)
  have g12 : IntKind.i64.wrap (20626481 * sn a + cn a * y) = 20626481 * sn a + cn a * y := IntWalk.i64_in _ (by omega)
  clear bX1 bY1 bZ1 bA bB bC bS bD
  have L0 : ∀ w', Below y2w.heap.size y2w w' → w'.cell? ⟨bv, 0, none⟩ = some (.int .i64 (rd (cn a * cn b))) := fun _ h => (V.next h).c0
  have L1 : ∀ w', Below y2w.heap.size y2w w' → w'.cell? ⟨bv, 1, none⟩ = some (.int .i64 (rd (cn a * sn b))) := fun _ h => (V.next h).c1
  have L2 : ∀ w', Below y2w.heap.size y2w w' → w'.cell? ⟨bv, 2, none⟩ = some (.int .i64 (sn a)) := fun _ h => (V.next h).c2
  have L3 : ∀ w', Below y2w.heap.size y2w w' → w'.cell? ⟨w.heap.size + 1, 0, none⟩ = some (.int .i64 x) := fun _ h => (U.next h).c0
  have L4 : ∀ w', Below y2w.heap.size y2w w' → w'.cell? ⟨w.heap.size + 1, 1, none⟩ = some (.int .i64 y) := fun _ h => (U.next h).c1
  clear t0 t1 t2 t3 tl u0 u1 u2 u3 ul v0 v1 v2 v3 v4 v5 vl
  have HB0 := Lib.hid B
  have HZ0 := Lib.hid Z
  clear B Z T U V
  go_cut [12] (fun s12 wx => ∃ bn : Nat, y2w.heap.size ≤ bn ∧ s12 = .pointer (some ⟨bn, 0, none⟩) ∧ C3 wx bn (.int .i64 (20626481 * rd (cn a * cn b) - sn b * x - rd (sn a * cn b) * y)) (.int .i64 (20626481 * rd (cn a * sn b) + cn b * x - rd (sn a * sn b) * y)) (.int .i64 (20626481 * sn a + cn a * y)) ∧ Below y2w.heap.size y2w wx)
  case first =>
    go_region_held3 (fun w' => Below y2w.heap.size y2w w') (first | with_reducible exact bdrew _ | with_reducible exact thn (below_alloc1 y2w _) (bdrew _) | with_reducible exact alc (bdrew _) _ | with_reducible exact below_put3 (thn (below_alloc1 y2w _) (bdrew _)) (b := y2w.heap.size) (Nat.le_refl _) _ _ _ | with_reducible exact below_put3 (alc (bdrew _) _) (b := y2w.heap.size) (Nat.le_refl _) _ _ _)
      (first | (go_at_call 28; refine (pround_any _ _ (by omega) (by omega)).mono ?_; rintro e w' ⟨rfl, rfl⟩))
    all_goals (go_wp2_with fail; go_meet)
    all_goals exact ⟨_, Nat.le_refl _, rfl, (c3_new y2w _ _ _ _).drew, thn (below_alloc1 y2w _) (bdrew _)⟩
  case rest =>
  obtain ⟨bn, hle, rfl, N, B2⟩ := hcut
  have B := thn HB0.out B2
  have Z := HZ0.out.next B2
  have HZN := Lib.hid (show w.heap.size + 1 + 1 ≠ bn from fun h => absurd hle (by have := HZ0.out.lt; omega))
  clear g0 g1 g2 g3 g4 g5 g6 g7 g8 g9 g10 g11 g12 L0 L1 L2 L3 L4 HB0 HZ0 B2 hle e1 e2 p0 p1 p2 p3
  have ⟨m0, m1⟩ : -100000000000000000 ≤ 20626481 * rd (cn a * cn b) - sn b * x - rd (sn a * cn b) * y ∧ 20626481 * rd (cn a * cn b) - sn b * x - rd (sn a * cn b) * y ≤ 100000000000000000 := by omega
  have ⟨m2, m3⟩ : -100000000000000000 ≤ 20626481 * rd (cn a * sn b) + cn b * x - rd (sn a * sn b) * y ∧ 20626481 * rd (cn a * sn b) + cn b * x - rd (sn a * sn b) * y ≤ 100000000000000000 := by omega
  have ⟨m4, m5⟩ : -100000000000000000 ≤ 20626481 * sn a + cn a * y ∧ 20626481 * sn a + cn a * y ≤ 100000000000000000 := by omega
  generalize 20626481 * rd (cn a * cn b) - sn b * x - rd (sn a * cn b) * y = N0 at *
  generalize 20626481 * rd (cn a * sn b) + cn b * x - rd (sn a * sn b) * y = N1 at *
  generalize 20626481 * sn a + cn a * y = N2 at *
  have i0 : ∀ w : World, (Instr.index 44 (.agg #[.int .i64 N0, .int .i64 N1, .int .i64 N2]) (.int .i64 0)).run Try.prog w = .ok (.int .i64 N0) w := fun _ => by kernel_rfl
  have i1 : ∀ w : World, (Instr.index 44 (.agg #[.int .i64 N0, .int .i64 N1, .int .i64 N2]) (.int .i64 1)).run Try.prog w = .ok (.int .i64 N1) w := fun _ => by kernel_rfl
  have i2 : ∀ w : World, (Instr.index 44 (.agg #[.int .i64 N0, .int .i64 N1, .int .i64 N2]) (.int .i64 2)).run Try.prog w = .ok (.int .i64 N2) w := fun _ => by kernel_rfl
  obtain ⟨t0, t1, t2, t3, t4, t5, tl⟩ := id N
  have V := c3_new wc (.int .i64 0) (.int .i64 0) (.int .i64 0) 44
  have HNZ := Lib.hid (show wc.heap.size ≠ w.heap.size + 1 + 1 from Nat.ne_of_gt Z.lt)
  have HBV := Lib.hid (show w.heap.size ≤ wc.heap.size from B.size)
  have B0 := Lib.hid (alc B (.cells #[.int .i64 0, .int .i64 0, .int .i64 0] 44))
  have Z0 := Lib.hid (Z.alc (.cells #[.int .i64 0, .int .i64 0, .int .i64 0] 44))
  clear B Z
  go_wp2
  clear t0 t1 t2 t3 t4 t5 tl N HZN
  generalize wc.heap.size = bw at *
  generalize wc.alloc (.cells #[.int .i64 0, .int .i64 0, .int .i64 0] 44) = z0 at *
  refine wp_loop_rounds 4 ?_
  rw [rounds_succ]
  go_wp2_with fail
  refine (fround_any _ _ _ (by omega) (by omega) (by omega) (by omega)).mono ?_
  rintro e s0 ⟨rfl, hd⟩
  have hb := hd.below z0.heap.size
  replace V := V.next hb
  have B0b := Lib.hid (thn B0.out hb)
  have Z0b := Lib.hid (Z0.out.next hb)
  clear hb hd
  obtain ⟨g0, g1, g2, g3, g4, g5, gl⟩ := id V
  generalize hq0 : qnear N0 20626481 = Q0 at *
  have HQ0 := Lib.hid hq0
  clear hq0
  go_wp2
  replace V := V.put0 (.int .i64 Q0)
  have B1 := Lib.hid (B0b.out.setCell (p := ⟨bw, 0, none⟩) HBV.out (.int .i64 Q0))
  have Z1 := Lib.hid (Z0b.out.else (p := ⟨bw, 0, none⟩) HNZ.out (.int .i64 Q0))
  clear g0 g1 g2 g3 g4 g5 gl
  generalize s0.setCell ⟨bw, 0, none⟩ (.int .i64 Q0) = z1 at *
  rw [rounds_succ]
  go_wp2_with fail
  refine (fround_any _ _ _ (by omega) (by omega) (by omega) (by omega)).mono ?_
  rintro e s1 ⟨rfl, hd⟩
  have hb := hd.below z1.heap.size
  replace V := V.next hb
  have B1b := Lib.hid (thn B1.out hb)
  have Z1b := Lib.hid (Z1.out.next hb)
  clear hb hd
  obtain ⟨g0, g1, g2, g3, g4, g5, gl⟩ := id V
  generalize hq1 : qnear N1 20626481 = Q1 at *
  have HQ1 := Lib.hid hq1
  clear hq1
  go_wp2
  replace V := V.put1 (.int .i64 Q1)
  have B2 := Lib.hid (B1b.out.setCell (p := ⟨bw, 1, none⟩) HBV.out (.int .i64 Q1))
  have Z2 := Lib.hid (Z1b.out.else (p := ⟨bw, 1, none⟩) HNZ.out (.int .i64 Q1))
  clear g0 g1 g2 g3 g4 g5 gl
  generalize s1.setCell ⟨bw, 1, none⟩ (.int .i64 Q1) = z2 at *
  rw [rounds_succ]
  go_wp2_with fail
  refine (fround_any _ _ _ (by omega) (by omega) (by omega) (by omega)).mono ?_
  rintro e s2 ⟨rfl, hd⟩
  have hb := hd.below z2.heap.size
  replace V := V.next hb
  have B2b := Lib.hid (thn B2.out hb)
  have Z2b := Lib.hid (Z2.out.next hb)
  clear hb hd
  obtain ⟨g0, g1, g2, g3, g4, g5, gl⟩ := id V
  generalize hq2 : qnear N2 20626481 = Q2 at *
  have HQ2 := Lib.hid hq2
  clear hq2
  go_wp2
  replace V := V.put2 (.int .i64 Q2)
  have B3 := Lib.hid (B2b.out.setCell (p := ⟨bw, 2, none⟩) HBV.out (.int .i64 Q2))
  have Z3 := Lib.hid (Z2b.out.else (p := ⟨bw, 2, none⟩) HNZ.out (.int .i64 Q2))
  clear g0 g1 g2 g3 g4 g5 gl
  generalize s2.setCell ⟨bw, 2, none⟩ (.int .i64 Q2) = z3 at *
  obtain ⟨g0, g1, g2, g3, g4, g5, gl⟩ := id V
  rw [rounds_succ]
  go_wp2_with fail
  refine (pos_any _ _ _ _).mono ?_
  rintro e x5 ⟨rfl, hb⟩
  have B := thn B3.out hb
  have Z := Z3.out.next hb
  clear hb g0 g1 g2 g3 g4 g5 gl V
  rw [HR.out]
  obtain ⟨z0, z1, z2, z3, zl⟩ := id Z
  go_wp2
  exact bodyPost_ret (v := .tuple #[posV R.1 R.2.1, .int .i64 R.2.2]) (by simp [results, Try.results14, go_sem, *]) rfl ⟨rfl, below_put2 B (b := w.heap.size + 1 + 1) (Nat.le_succ_of_le (Nat.le_succ _)) _ _⟩
theorem from_any (a b x y : Int) (w : World) :
    Calls Try.prog 14 #[posV a b, ptV x y] w fun e w' => e = Ps3 (frv a b x y) ∧ Below w.heap.size w w' := by
  unfold frv
  cases h1 : org a b
  · exact from_a a b x y w h1
  cases h2 : pvd x y
  · exact from_b a b x y w h1 h2
  · exact from_c a b x y w h1 h2
end Go.Proofs.Ytmlacekgmdlfjaa
