/- Package sphere: the distance of two positions. -/
import Derived.Test.YtmlacekgmdlfjaaSphD
import Derived.Test.YtmlacekgmdlfjaaSphQ
import Derived.LoopN
import Derived.Deep.RegionHeld3
import Derived.Deep.DeepCutAuto
namespace Go.Proofs.Ytmlacekgmdlfjaa
open Go.RowKit Go.Joins Fdk
set_option linter.unusedVariables false
/-- the distance of two valid positions. -/
def dv (a b c d : Int) : Int := (a2 (isq (csum (rd (cn a * sn b) * sn c - sn a * rd (cn c * sn d)) (sn a * rd (cn c * cn d) - rd (cn a * cn b) * sn c) (rd (cn a * cn b) * rd (cn c * sn d) - rd (cn a * sn b) * rd (cn c * cn d)))) (rd (rd (cn a * cn b) * rd (cn c * cn d) + rd (cn a * sn b) * rd (cn c * sn d) + sn a * sn c))).1
theorem c3_newp (w : World) (b : Nat) (v0 v1 v2 x y z : Value) (t : TypeId) : C3 ((((w.setCell ⟨b, 0, none⟩ v0).setCell ⟨b, 1, none⟩ v1).setCell ⟨b, 2, none⟩ v2).alloc (.cells #[x, y, z] t)) w.heap.size x y z := by
  have h := c3_new (((w.setCell ⟨b, 0, none⟩ v0).setCell ⟨b, 1, none⟩ v1).setCell ⟨b, 2, none⟩ v2) x y z t
  rw [show (((w.setCell ⟨b, 0, none⟩ v0).setCell ⟨b, 1, none⟩ v1).setCell ⟨b, 2, none⟩ v2).heap.size = w.heap.size by simp] at h
  exact h
set_option maxHeartbeats 20000000 in
theorem dist_ok_walk (a b c d : Int) (w : World) (h1 : vd a b = true) (h2 : vd c d = true) :
    Calls Try.prog 21 #[posV a b, posV c d] w fun e w' => e = TwoInts (dv a b c d) 0 ∧ Below w.heap.size w w' := by
  have HV := Lib.hid (show dv a b c d = (a2 (isq (csum (rd (cn a * sn b) * sn c - sn a * rd (cn c * sn d)) (sn a * rd (cn c * cn d) - rd (cn a * cn b) * sn c) (rd (cn a * cn b) * rd (cn c * sn d) - rd (cn a * sn b) * rd (cn c * cn d)))) (rd (rd (cn a * cn b) * rd (cn c * cn d) + rd (cn a * sn b) * rd (cn c * sn d) + sn a * sn c))).1 from rfl)
  go_enter Try.func21, Try.ntmps21
  go_wp2_with fail
  refine (valid_any _ _ _).mono ?_
  rintro e w0 ⟨rfl, hb⟩
  have B := thn (below_alloc2 w _ _) hb
  have T := ((c2_new w (.int .i64 a) (.int .i64 b) 23).alc _).next hb
  have U := (c2_new _ (.int .i64 c) (.int .i64 d) 23).next hb
  simp only [World.alloc, Array.size_push] at U
  obtain ⟨c0, c1, g0, g1, l0⟩ := id T
  obtain ⟨d0, d1, j0, j1, l1⟩ := id U
  rw [h1]
  go_wp2_with fail
  refine (valid_any _ _ _).mono ?_
  rintro e w1 ⟨rfl, hb1⟩
  replace B := thn B hb1
  replace T := T.next hb1
  replace U := U.next hb1
  clear hb hb1 c0 c1 g0 g1 l0 d0 d1 j0 j1 l1
  rw [h2]
  go_wp2
  have L0 : ∀ w', Below w1.heap.size w1 w' → w'.cell? ⟨w.heap.size, 0, none⟩ = some (.int .i64 a) := fun _ h => (T.next h).c0
  have L1 : ∀ w', Below w1.heap.size w1 w' → w'.cell? ⟨w.heap.size, 1, none⟩ = some (.int .i64 b) := fun _ h => (T.next h).c1
  have L2 : ∀ w', Below w1.heap.size w1 w' → w'.cell? ⟨w.heap.size + 1, 0, none⟩ = some (.int .i64 c) := fun _ h => (U.next h).c0
  have L3 : ∀ w', Below w1.heap.size w1 w' → w'.cell? ⟨w.heap.size + 1, 1, none⟩ = some (.int .i64 d) := fun _ h => (U.next h).c1
  have hle1 : Hid (w1.heap.size ≤ w1.heap.size) := Lib.hid (Nat.le_refl _)
  have hle2 : Hid (w1.heap.size ≤ w1.heap.size + 1) := Lib.hid (Nat.le_succ _)
  have HB0 := Lib.hid B
  clear T U B
  go_cut [6, 7] (fun s6 s7 wx => ∃ ba bb : Nat, s6 = .pointer (some ⟨ba, 0, none⟩) ∧ s7 = .pointer (some ⟨bb, 0, none⟩) ∧ C3 wx ba (.int .i64 (rd (cn a * cn b))) (.int .i64 (rd (cn a * sn b))) (.int .i64 (sn a)) ∧ C3 wx bb (.int .i64 (rd (cn c * cn d))) (.int .i64 (rd (cn c * sn d))) (.int .i64 (sn c)) ∧ Below w1.heap.size w1 wx)
  case first =>
    go_region_held3 (fun w' => Below w1.heap.size w1 w') (first | with_reducible exact hS3 | with_reducible exact alc hS3 _ | with_reducible exact alc (alc hS3 _) _ | with_reducible (refine alc (below_put3 hS3 ?_ _ _ _) _; (first | exact hle1.out | exact hle2.out | exact hle3.out | exact hle4.out | exact hS3.size)) | with_reducible (refine below_put3 hS3 ?_ _ _ _; (first | exact hle1.out | exact hle2.out | exact hle3.out | exact hle4.out | exact hS3.size)) | with_reducible (refine below_put3 (below_put3 hS3 ?_ _ _ _) ?_ _ _ _ <;> (first | exact hle1.out | exact hle2.out | exact hle3.out | exact hle4.out | exact hS3.size)) | with_reducible exact hS2 | with_reducible exact alc hS2 _ | with_reducible exact alc (alc hS2 _) _ | with_reducible exact bdrew _ | with_reducible exact thn (below_alloc1 w1 _) (bdrew _) | with_reducible exact thn (below_alloc2 w1 _ _) (bdrew _))
      (first | (go_at_call 42; with_reducible refine (of_any a b _).mono ?_; rintro e w2 ⟨rfl, hb2⟩; (first | (have hS2 := thn (bdrew w1) hb2) | (have hS2 := thn (thn (below_alloc1 w1 _) (bdrew _)) hb2; have P := (c3_new w1 (.int .i64 0) (.int .i64 0) (.int .i64 0) 44).drew.next hb2) | (have hS2 := thn (thn (below_alloc2 w1 _ _) (bdrew _)) hb2; have P := ((c3_new w1 (.int .i64 0) (.int .i64 0) (.int .i64 0) 44).alc (.cells #[.int .i64 0, .int .i64 0, .int .i64 0] 44)).drew.next hb2; have R := (c3_new (w1.alloc (.cells #[.int .i64 0, .int .i64 0, .int .i64 0] 44)) (.int .i64 0) (.int .i64 0) (.int .i64 0) 44).drew.next hb2; simp only [World.alloc, Array.size_push] at R)); have hle3 : Hid (w1.heap.size ≤ w2.heap.size) := Lib.hid hS2.size; have hle4 : Hid (w1.heap.size ≤ w2.heap.size + 1) := Lib.hid (Nat.le_succ_of_le hS2.size); clear L0 L1 L2 L3) | (go_at_call 42; with_reducible refine (of_any c d _).mono ?_; rintro e w3 ⟨rfl, hb3⟩; (first | (have hS3 := thn hS2 hb3; (try (have P3 := P.next hb3; obtain ⟨p0, p1, p2, p3, p4, p5, pl⟩ := id P3)); (try (have R3 := R.next hb3; obtain ⟨r0, r1, r2, r3, r4, r5, rl⟩ := id R3))) | (have hS3 := thn (alc hS2 _) hb3; (try (have P3 := (P.alc _).next hb3; have ne1 := Nat.ne_of_lt P.lt; have ne2 := Nat.ne_of_gt P.lt; obtain ⟨p0, p1, p2, p3, p4, p5, pl⟩ := id P3)); have Q3 := (c3_new w2 (.int .i64 0) (.int .i64 0) (.int .i64 0) 44).next hb3; obtain ⟨q0, q1, q2, q3, q4, q5, ql⟩ := id Q3) | (have hS3 := thn (alc (alc hS2 _) _) hb3; have Q3 := ((c3_new w2 (.int .i64 0) (.int .i64 0) (.int .i64 0) 44).alc (.cells #[.int .i64 0, .int .i64 0, .int .i64 0] 44)).next hb3; have R3 := (c3_new (w2.alloc (.cells #[.int .i64 0, .int .i64 0, .int .i64 0] 44)) (.int .i64 0) (.int .i64 0) (.int .i64 0) 44).next hb3; simp only [World.alloc, Array.size_push] at R3; obtain ⟨q0, q1, q2, q3, q4, q5, ql⟩ := id Q3; obtain ⟨r0, r1, r2, r3, r4, r5, rl⟩ := id R3))))
    all_goals (go_wp2_with fail; go_meet)
    all_goals (first | (with_reducible exact ⟨_, _, rfl, rfl, (c3_new w3 _ _ _ _).alc _, c3_new1 w3 _ _ _ _ _, alc (alc hS3 _) _⟩) | (with_reducible exact ⟨_, _, rfl, rfl, c3_new1 w3 _ _ _ _ _, (c3_new w3 _ _ _ _).alc _, alc (alc hS3 _) _⟩) | (with_reducible exact ⟨_, _, rfl, rfl, (P3.put _ _ _).alc _, c3_newp w3 _ _ _ _ _ _ _ _, alc (below_put3 hS3 (by first | exact hle1.out | exact hle2.out | exact hle3.out | exact hle4.out | exact hS3.size) _ _ _) _⟩) | (with_reducible exact ⟨_, _, rfl, rfl, c3_newp w3 _ _ _ _ _ _ _ _, (P3.put _ _ _).alc _, alc (below_put3 hS3 (by first | exact hle1.out | exact hle2.out | exact hle3.out | exact hle4.out | exact hS3.size) _ _ _) _⟩) | (with_reducible exact ⟨_, _, rfl, rfl, (Q3.put _ _ _).alc _, c3_newp w3 _ _ _ _ _ _ _ _, alc (below_put3 hS3 (by first | exact hle1.out | exact hle2.out | exact hle3.out | exact hle4.out | exact hS3.size) _ _ _) _⟩) | (with_reducible exact ⟨_, _, rfl, rfl, c3_newp w3 _ _ _ _ _ _ _ _, (Q3.put _ _ _).alc _, alc (below_put3 hS3 (by first | exact hle1.out | exact hle2.out | exact hle3.out | exact hle4.out | exact hS3.size) _ _ _) _⟩) | (with_reducible exact ⟨_, _, rfl, rfl, (R3.put _ _ _).alc _, c3_newp w3 _ _ _ _ _ _ _ _, alc (below_put3 hS3 (by first | exact hle1.out | exact hle2.out | exact hle3.out | exact hle4.out | exact hS3.size) _ _ _) _⟩) | (with_reducible exact ⟨_, _, rfl, rfl, c3_newp w3 _ _ _ _ _ _ _ _, (R3.put _ _ _).alc _, alc (below_put3 hS3 (by first | exact hle1.out | exact hle2.out | exact hle3.out | exact hle4.out | exact hS3.size) _ _ _) _⟩) | (with_reducible exact ⟨_, _, rfl, rfl, (P3.put _ _ _).else3 (by first | exact ne1 | exact ne2 | exact Nat.succ_ne_self _ | exact (Nat.succ_ne_self _).symm) _ _ _, (Q3.else3 (by first | exact ne1 | exact ne2 | exact Nat.succ_ne_self _ | exact (Nat.succ_ne_self _).symm) _ _ _).put _ _ _, below_put3 (below_put3 hS3 (by first | exact hle1.out | exact hle2.out | exact hle3.out | exact hle4.out | exact hS3.size) _ _ _) (by first | exact hle1.out | exact hle2.out | exact hle3.out | exact hle4.out | exact hS3.size) _ _ _⟩) | (with_reducible exact ⟨_, _, rfl, rfl, (P3.put _ _ _).else3 (by first | exact ne1 | exact ne2 | exact Nat.succ_ne_self _ | exact (Nat.succ_ne_self _).symm) _ _ _, (R3.else3 (by first | exact ne1 | exact ne2 | exact Nat.succ_ne_self _ | exact (Nat.succ_ne_self _).symm) _ _ _).put _ _ _, below_put3 (below_put3 hS3 (by first | exact hle1.out | exact hle2.out | exact hle3.out | exact hle4.out | exact hS3.size) _ _ _) (by first | exact hle1.out | exact hle2.out | exact hle3.out | exact hle4.out | exact hS3.size) _ _ _⟩) | (with_reducible exact ⟨_, _, rfl, rfl, (Q3.put _ _ _).else3 (by first | exact ne1 | exact ne2 | exact Nat.succ_ne_self _ | exact (Nat.succ_ne_self _).symm) _ _ _, (P3.else3 (by first | exact ne1 | exact ne2 | exact Nat.succ_ne_self _ | exact (Nat.succ_ne_self _).symm) _ _ _).put _ _ _, below_put3 (below_put3 hS3 (by first | exact hle1.out | exact hle2.out | exact hle3.out | exact hle4.out | exact hS3.size) _ _ _) (by first | exact hle1.out | exact hle2.out | exact hle3.out | exact hle4.out | exact hS3.size) _ _ _⟩) | (with_reducible exact ⟨_, _, rfl, rfl, (Q3.put _ _ _).else3 (by first | exact ne1 | exact ne2 | exact Nat.succ_ne_self _ | exact (Nat.succ_ne_self _).symm) _ _ _, (R3.else3 (by first | exact ne1 | exact ne2 | exact Nat.succ_ne_self _ | exact (Nat.succ_ne_self _).symm) _ _ _).put _ _ _, below_put3 (below_put3 hS3 (by first | exact hle1.out | exact hle2.out | exact hle3.out | exact hle4.out | exact hS3.size) _ _ _) (by first | exact hle1.out | exact hle2.out | exact hle3.out | exact hle4.out | exact hS3.size) _ _ _⟩) | (with_reducible exact ⟨_, _, rfl, rfl, (R3.put _ _ _).else3 (by first | exact ne1 | exact ne2 | exact Nat.succ_ne_self _ | exact (Nat.succ_ne_self _).symm) _ _ _, (P3.else3 (by first | exact ne1 | exact ne2 | exact Nat.succ_ne_self _ | exact (Nat.succ_ne_self _).symm) _ _ _).put _ _ _, below_put3 (below_put3 hS3 (by first | exact hle1.out | exact hle2.out | exact hle3.out | exact hle4.out | exact hS3.size) _ _ _) (by first | exact hle1.out | exact hle2.out | exact hle3.out | exact hle4.out | exact hS3.size) _ _ _⟩) | (with_reducible exact ⟨_, _, rfl, rfl, (R3.put _ _ _).else3 (by first | exact ne1 | exact ne2 | exact Nat.succ_ne_self _ | exact (Nat.succ_ne_self _).symm) _ _ _, (Q3.else3 (by first | exact ne1 | exact ne2 | exact Nat.succ_ne_self _ | exact (Nat.succ_ne_self _).symm) _ _ _).put _ _ _, below_put3 (below_put3 hS3 (by first | exact hle1.out | exact hle2.out | exact hle3.out | exact hle4.out | exact hS3.size) _ _ _) (by first | exact hle1.out | exact hle2.out | exact hle3.out | exact hle4.out | exact hS3.size) _ _ _⟩))
  case rest =>
  obtain ⟨ba, bb, rfl, rfl, FA, FB, B2⟩ := hcut
  clear L0 L1 L2 L3
  obtain ⟨a0, a1, a2_, a3, a4, a5, al⟩ := id FA
  obtain ⟨b0, b1, b2, b3, b4, b5, bl⟩ := id FB
  have UA : Unit3 (rd (cn a * cn b)) (rd (cn a * sn b)) (sn a) := norm_b a b
  have UB : Unit3 (rd (cn c * cn d)) (rd (cn c * sn d)) (sn c) := norm_b c d
  obtain ⟨s0, s1, s2, s3, s4, s5, s6⟩ := dist_b UA UB
  have HA := Lib.hid UA
  have HB := Lib.hid UB
  have ⟨bX10, bX11⟩ := rd_b (cc_b a b).1 (cc_b a b).2
  have ⟨bY10, bY11⟩ := rd_b (cs_b a b).1 (cs_b a b).2
  have ⟨bZ10, bZ11⟩ := sn_b a
  have ⟨bX20, bX21⟩ := rd_b (cc_b c d).1 (cc_b c d).2
  have ⟨bY20, bY21⟩ := rd_b (cs_b c d).1 (cs_b c d).2
  have ⟨bZ20, bZ21⟩ := sn_b c
  clear UA UB s6
  generalize rd (cn a * cn b) = X1 at *
  generalize rd (cn a * sn b) = Y1 at *
  generalize sn a = Z1 at *
  generalize rd (cn c * cn d) = X2 at *
  generalize rd (cn c * sn d) = Y2 at *
  generalize sn c = Z2 at *
  have ⟨pY1Z20, pY1Z21⟩ := one_b bY10 bY11 bZ20 bZ21
  have eY1Z2 : IntKind.i64.wrap (Y1 * Z2) = Y1 * Z2 := IntWalk.i64_in _ (by omega)
  have ⟨pZ1Y20, pZ1Y21⟩ := one_b bZ10 bZ11 bY20 bY21
  have eZ1Y2 : IntKind.i64.wrap (Z1 * Y2) = Z1 * Y2 := IntWalk.i64_in _ (by omega)
  have ⟨pZ1X20, pZ1X21⟩ := one_b bZ10 bZ11 bX20 bX21
  have eZ1X2 : IntKind.i64.wrap (Z1 * X2) = Z1 * X2 := IntWalk.i64_in _ (by omega)
  have ⟨pX1Z20, pX1Z21⟩ := one_b bX10 bX11 bZ20 bZ21
  have eX1Z2 : IntKind.i64.wrap (X1 * Z2) = X1 * Z2 := IntWalk.i64_in _ (by omega)
  have ⟨pX1Y20, pX1Y21⟩ := one_b bX10 bX11 bY20 bY21
  have eX1Y2 : IntKind.i64.wrap (X1 * Y2) = X1 * Y2 := IntWalk.i64_in _ (by omega)
  have ⟨pY1X20, pY1X21⟩ := one_b bY10 bY11 bX20 bX21
  have eY1X2 : IntKind.i64.wrap (Y1 * X2) = Y1 * X2 := IntWalk.i64_in _ (by omega)
  have ⟨pX1X20, pX1X21⟩ := one_b bX10 bX11 bX20 bX21
  have eX1X2 : IntKind.i64.wrap (X1 * X2) = X1 * X2 := IntWalk.i64_in _ (by omega)
  have ⟨pY1Y20, pY1Y21⟩ := one_b bY10 bY11 bY20 bY21
  have eY1Y2 : IntKind.i64.wrap (Y1 * Y2) = Y1 * Y2 := IntWalk.i64_in _ (by omega)
  have ⟨pZ1Z20, pZ1Z21⟩ := one_b bZ10 bZ11 bZ20 bZ21
  have eZ1Z2 : IntKind.i64.wrap (Z1 * Z2) = Z1 * Z2 := IntWalk.i64_in _ (by omega)
  have eS0 : IntKind.i64.wrap (Y1 * Z2 - Z1 * Y2) = Y1 * Z2 - Z1 * Y2 := IntWalk.i64_in _ (by omega)
  have ⟨n00, n01⟩ := rd_abs s0
  have ia0 : 0 ≤ iabs (Y1 * Z2 - Z1 * Y2) ∧ iabs (Y1 * Z2 - Z1 * Y2) ≤ 1152921517491748864 := ⟨iabs_nn _, by unfold iabs; split <;> omega⟩
  have q00 := mul_nnsq (rd (iabs (Y1 * Z2 - Z1 * Y2)))
  have q01 : rd (iabs (Y1 * Z2 - Z1 * Y2)) * rd (iabs (Y1 * Z2 - Z1 * Y2)) ≤ 1152921532000000000 := Int.le_trans (Int.mul_le_mul n01 n01 n00 (by omega)) (by omega)
  have eS1 : IntKind.i64.wrap (Z1 * X2 - X1 * Z2) = Z1 * X2 - X1 * Z2 := IntWalk.i64_in _ (by omega)
  have ⟨n10, n11⟩ := rd_abs s1
  have ia1 : 0 ≤ iabs (Z1 * X2 - X1 * Z2) ∧ iabs (Z1 * X2 - X1 * Z2) ≤ 1152921517491748864 := ⟨iabs_nn _, by unfold iabs; split <;> omega⟩
  have q10 := mul_nnsq (rd (iabs (Z1 * X2 - X1 * Z2)))
  have q11 : rd (iabs (Z1 * X2 - X1 * Z2)) * rd (iabs (Z1 * X2 - X1 * Z2)) ≤ 1152921532000000000 := Int.le_trans (Int.mul_le_mul n11 n11 n10 (by omega)) (by omega)
  have eS2 : IntKind.i64.wrap (X1 * Y2 - Y1 * X2) = X1 * Y2 - Y1 * X2 := IntWalk.i64_in _ (by omega)
  have ⟨n20, n21⟩ := rd_abs s2
  have ia2 : 0 ≤ iabs (X1 * Y2 - Y1 * X2) ∧ iabs (X1 * Y2 - Y1 * X2) ≤ 1152921517491748864 := ⟨iabs_nn _, by unfold iabs; split <;> omega⟩
  have q20 := mul_nnsq (rd (iabs (X1 * Y2 - Y1 * X2)))
  have q21 : rd (iabs (X1 * Y2 - Y1 * X2)) * rd (iabs (X1 * Y2 - Y1 * X2)) ≤ 1152921532000000000 := Int.le_trans (Int.mul_le_mul n21 n21 n20 (by omega)) (by omega)
  go_wp2
  refine wp_loop_rounds 4 ?_
  rw [rounds_succ]
  go_wp2
  go_quiet (first | (go_at_call 44; exact quiet_same (abs_any _ _ (by omega) (by omega))) | (go_at_call 43; exact quiet_same (round_any _ _ (by omega) (by omega))))
  replace FA := FA.next (below_draws _ wc nq)
  replace FB := FB.next (below_draws _ wc nq)
  replace B2 := B2.trans ((below_draws _ wc nq).mono B2.size)
  generalize wc.drewN nq = v0 at FA FB B2 ⊢
  clear nq a0 a1 a2_ a3 a4 a5 al b0 b1 b2 b3 b4 b5 bl
  obtain ⟨a0, a1, a2_, a3, a4, a5, al⟩ := id FA
  obtain ⟨b0, b1, b2, b3, b4, b5, bl⟩ := id FB
  go_wp2
  rw [rounds_succ]
  go_wp2
  go_quiet (first | (go_at_call 44; exact quiet_same (abs_any _ _ (by omega) (by omega))) | (go_at_call 43; exact quiet_same (round_any _ _ (by omega) (by omega))))
  replace FA := FA.next (below_draws _ v0 nq)
  replace FB := FB.next (below_draws _ v0 nq)
  replace B2 := B2.trans ((below_draws _ v0 nq).mono B2.size)
  generalize v0.drewN nq = v1 at FA FB B2 ⊢
  clear nq a0 a1 a2_ a3 a4 a5 al b0 b1 b2 b3 b4 b5 bl
  obtain ⟨a0, a1, a2_, a3, a4, a5, al⟩ := id FA
  obtain ⟨b0, b1, b2, b3, b4, b5, bl⟩ := id FB
  go_wp2
  rw [rounds_succ]
  go_wp2
  go_quiet (first | (go_at_call 44; exact quiet_same (abs_any _ _ (by omega) (by omega))) | (go_at_call 43; exact quiet_same (round_any _ _ (by omega) (by omega))))
  replace FA := FA.next (below_draws _ v1 nq)
  replace FB := FB.next (below_draws _ v1 nq)
  replace B2 := B2.trans ((below_draws _ v1 nq).mono B2.size)
  generalize v1.drewN nq = v2 at FA FB B2 ⊢
  clear nq a0 a1 a2_ a3 a4 a5 al b0 b1 b2 b3 b4 b5 bl
  obtain ⟨a0, a1, a2_, a3, a4, a5, al⟩ := id FA
  obtain ⟨b0, b1, b2, b3, b4, b5, bl⟩ := id FB
  go_wp2
  rw [rounds_succ]
  go_wp2
  have A0 : ∀ w', Below v2.heap.size v2 w' → w'.cell? ⟨ba, 0, none⟩ = some (.int .i64 X1) := fun _ h => (FA.next h).c0
  have A1 : ∀ w', Below v2.heap.size v2 w' → w'.cell? ⟨ba, 1, none⟩ = some (.int .i64 Y1) := fun _ h => (FA.next h).c1
  have A2 : ∀ w', Below v2.heap.size v2 w' → w'.cell? ⟨ba, 2, none⟩ = some (.int .i64 Z1) := fun _ h => (FA.next h).c2
  have A3 : ∀ w', Below v2.heap.size v2 w' → w'.cell? ⟨bb, 0, none⟩ = some (.int .i64 X2) := fun _ h => (FB.next h).c0
  have A4 : ∀ w', Below v2.heap.size v2 w' → w'.cell? ⟨bb, 1, none⟩ = some (.int .i64 Y2) := fun _ h => (FB.next h).c1
  have A5 : ∀ w', Below v2.heap.size v2 w' → w'.cell? ⟨bb, 2, none⟩ = some (.int .i64 Z2) := fun _ h => (FB.next h).c2
  have HB2 := Lib.hid B2
  clear a0 a1 a2_ a3 a4 a5 al b0 b1 b2 b3 b4 b5 bl FA FB B2 hle1 hle2
  go_region_held3 (fun w' => Below v2.heap.size v2 w') (first | with_reducible exact bdrew _ | with_reducible exact hS5 | with_reducible exact hS6 | with_reducible assumption)
    (first | (go_at_call 46; refine (sqrt_any _ _ (by omega) (by omega)).mono ?_; rintro e w' ⟨rfl, rfl⟩) | (go_at_call 47; refine (dot_any X1 Y1 Z1 X2 Y2 Z2 _ (by omega) (by omega) (by omega) (by omega) (by omega)).mono ?_; rintro e w5 ⟨rfl, hb5⟩; have hS5 := thn (bdrew v2) hb5) | (go_at_call 45; refine (a2_any _ _ _).mono ?_; rintro e w6 ⟨rfl, hb6⟩; have hS6 := thn hS5 hb6))
  all_goals go_wp2
  all_goals go_ret2
  all_goals exact ⟨by rw [HV.out]; rfl, thn (thn HB0.out HB2.out) hS6⟩
def dstv (a b c d : Int) : Int × Int := if vd a b && vd c d then (dv a b c d, 0) else (0, 1)
theorem dist_any (a b c d : Int) (w : World) :
    Calls Try.prog 21 #[posV a b, posV c d] w fun e w' => e = TwoInts (dstv a b c d).1 (dstv a b c d).2 ∧ Below w.heap.size w w' := by
  cases h1 : vd a b
  · have hh := Lib.hid (show dstv a b c d = (0, 1) by simp [dstv, h1])
    go_enter Try.func21, Try.ntmps21
    go_wp2_with fail
    refine (valid_any _ _ _).mono ?_
    rintro e w0 ⟨rfl, hb⟩
    have B := thn (below_alloc2 w _ _) hb
    rw [h1]
    go_wp2
    go_ret2
    exact ⟨by rw [hh.out]; rfl, B⟩
  cases h2 : vd c d
  · have hh := Lib.hid (show dstv a b c d = (0, 1) by simp [dstv, h2])
    go_enter Try.func21, Try.ntmps21
    go_wp2_with fail
    refine (valid_any _ _ _).mono ?_
    rintro e w0 ⟨rfl, hb⟩
    have B := thn (below_alloc2 w _ _) hb
    have U := (c2_new _ (.int .i64 c) (.int .i64 d) 23).next hb
    simp only [World.alloc, Array.size_push] at U
    obtain ⟨d0, d1, j0, j1, l1⟩ := id U
    rw [h1]
    go_wp2_with fail
    refine (valid_any _ _ _).mono ?_
    rintro e w1 ⟨rfl, hb1⟩
    replace B := thn B hb1
    rw [h2]
    go_wp2
    go_ret2
    exact ⟨by rw [hh.out]; rfl, B⟩
  · have hh : dstv a b c d = (dv a b c d, 0) := by simp [dstv, h1, h2]
    rw [hh]
    exact dist_ok_walk a b c d w h1 h2
end Go.Proofs.Ytmlacekgmdlfjaa
