/- The law of chapter 9 on vectors of positions. -/
import Derived.Test.YtgcmmfclnialfaaRotV
import Derived.Test.YtgcmmfclnialfaaLaw09a
import Derived.Deep.RegionHeld3
namespace Go.Proofs.Ytgcmmfclnialfaa
open Go.RowKit Go.Joins Fdk
set_option linter.unusedVariables false
theorem sn_7 : sn 7 = 365 := by decide +kernel
theorem one1_abs {x : Int} (h : One1 x) : -1342177280 ≤ x ∧ x ≤ 1342177280 := by unfold One1 at h; omega
/-- a bound in whole parts, out of one in rationals. -/
theorem whole_b {W M : Int} {A : Rat} (h0 : -(1073741824 * A) ≤ (W : Rat)) (h1 : (W : Rat) ≤ 1073741824 * A) (hA : A ≤ (M : Rat)) : -(1073741824 * M) ≤ W ∧ W ≤ 1073741824 * M := by
  constructor
  · refine ile ?_
    rw [Rat.intCast_neg, Rat.intCast_mul]
    simp only [Rat.intCast_ofNat]
    grind
  · refine ile ?_
    rw [Rat.intCast_mul]
    simp only [Rat.intCast_ofNat]
    grind
/-- the scalar product of a vector with the vector of its position is not much below nothing. -/
theorem dot_lo (x y z c d : Int) (hx : One1 x) (hy : One1 y) (hz : One1 z) (hv : vd c d = true) (u1 : -1 ≤ cU c d x y z) : -576460752303423488 ≤ x * rd (cn c * cn d) + y * rd (cn c * sn d) + z * sn c := by
  have ⟨o1, o2, o3⟩ := of_near hv
  have a := rle2 hx.1
  have b := rle2 hx.2
  have c1 := rle2 hy.1
  have d1 := rle2 hy.2
  have e1 := rle2 hz.1
  have f1 := rle2 hz.2
  refine ile ?_
  simp only [Rat.intCast_mul, Rat.intCast_add, Rat.intCast_neg, Rat.intCast_ofNat] at a b c1 d1 e1 f1 ⊢
  have p1 := mulab (a := (x : Rat)) (b := (rd (cn c * cn d) : Rat) - 1073741824 * (CC c * CC d)) (A := 1073741824) (B := 9/2) a b o1.1 o1.2
  have p2 := mulab (a := (y : Rat)) (b := (rd (cn c * sn d) : Rat) - 1073741824 * (CC c * SS d)) (A := 1073741824) (B := 9/2) c1 d1 o2.1 o2.2
  have p3 := mulab (a := (z : Rat)) (b := (sn c : Rat) - 1073741824 * SS c) (A := 1073741824) (B := 2) e1 f1 o3.1 o3.2
  have e : (x : Rat) * (rd (cn c * cn d) : Rat) + (y : Rat) * (rd (cn c * sn d) : Rat) + (z : Rat) * (sn c : Rat) = 1073741824 * cU c d x y z + (x : Rat) * ((rd (cn c * cn d) : Rat) - 1073741824 * (CC c * CC d)) + (y : Rat) * ((rd (cn c * sn d) : Rat) - 1073741824 * (CC c * SS d)) + (z : Rat) * ((sn c : Rat) - 1073741824 * SS c) := by unfold cU cH; grind
  rw [e]
  generalize (x : Rat) * ((rd (cn c * cn d) : Rat) - 1073741824 * (CC c * CC d)) = P1 at *
  generalize (y : Rat) * ((rd (cn c * sn d) : Rat) - 1073741824 * (CC c * SS d)) = P2 at *
  generalize (z : Rat) * ((sn c : Rat) - 1073741824 * SS c) = P3 at *
  grind
theorem vectors_plain (a b : Int) (h : vd a b = true) : ∃ c d, posn (rd (cn a * cn b)) (rd (cn a * sn b)) (sn a) = (c, d, 0) ∧ vd c d = true ∧ dstv a b c d = (dv a b c d, 0) ∧ dv a b c d ≤ 6 := by
  have ox := one_rd (cc_b a b)
  have oy := one_rd (cs_b a b)
  have oz : One1 (sn a) := sn_b a
  have hn := norm_b a b
  have hne : ¬ (rd (cn a * cn b) = 0 ∧ rd (cn a * sn b) = 0 ∧ sn a = 0) := by
    rintro ⟨h1, h2, h3⟩
    rw [h1, h2, h3] at hn
    omega
  have hR : ((rd (cn a * cn b) : Int) : Rat) * (rd (cn a * cn b) : Int) + ((rd (cn a * sn b) : Int) : Rat) * (rd (cn a * sn b) : Int) + ((sn a : Int) : Rat) * (sn a : Int) ≤ 1073741840 * 1073741840 := by
    have := rle2 hn.2
    simp only [Rat.intCast_mul, Rat.intCast_add, Rat.intCast_ofNat] at this
    grind
  obtain ⟨c, d, hp, hv, ⟨e1, e2⟩, ⟨n1, n2⟩, u1⟩ := posn_dir _ _ _ (one1_abs ox) (one1_abs oy) (one1_abs oz) hne 1073741840 (by grind) hR
  have ⟨w0, w1, w2⟩ := cross_close (rd (cn a * cn b)) (rd (cn a * sn b)) (sn a) c d ox oy oz hv 55 56 (by grind) (by grind) (by grind) (by grind)
  have hA : (55 : Rat) + 56 + 9 ≤ ((120 : Int) : Rat) := by decide +kernel
  have hd := dist_small a b c d h hv 120 6 (by omega) (by omega) (by omega) (by omega) (by rw [show (6 : Int) + 1 = 7 from rfl, sn_7]; omega) (whole_b w0.1 w0.2 hA) (whole_b w1.1 w1.2 hA) (whole_b w2.1 w2.2 hA) (dot_lo _ _ _ c d ox oy oz hv u1)
  exact ⟨c, d, hp, hv, hd.1, hd.2.2⟩
set_option maxHeartbeats 4000000 in
theorem vectors_no (a b : Int) (w : World) (h : vd a b = false) :
    Calls Try.prog 3 #[posV a b] w fun e w' => e = .returned (.bool true) ∧ Below w.heap.size w w' := by
  have HO := Lib.hid (show ofv a b = (0, 0, 0, 1) by simp [ofv, h])
  have HV := Lib.hid h
  clear h
  go_enter Try.func3, Try.ntmps3
  go_wp2_with fail
  have B := below_alloc1 w (.cells #[.int .i64 a, .int .i64 b] 23)
  have T := c2_new w (.int .i64 a) (.int .i64 b) 23
  generalize w.alloc (.cells #[.int .i64 a, .int .i64 b] 23) = w0 at *
  have L0 : ∀ w', Below w0.heap.size w0 w' → w'.cell? ⟨w.heap.size, 0, none⟩ = some (.int .i64 a) := fun _ h => (T.next h).c0
  have L1 : ∀ w', Below w0.heap.size w0 w' → w'.cell? ⟨w.heap.size, 1, none⟩ = some (.int .i64 b) := fun _ h => (T.next h).c1
  go_region_held3 (fun w' => Below w0.heap.size w0 w') (first | with_reducible exact bdrew _ | with_reducible exact hS3 | with_reducible exact hS2 | with_reducible exact hS1)
    (first | (go_at_call 15; refine (awake_any _).mono ?_; rintro e x1 ⟨rfl, hb⟩; have hS1 := thn (bdrew w0) hb) | (go_at_call 16; refine (valid_any _ _ _).mono ?_; rintro e x2 ⟨rfl, hb2⟩; rw [HV.out]; have hS2 := thn hS1 hb2) | (go_at_call 17; refine (rvalid_any _ _ _).mono ?_; rintro e x3 ⟨rfl, hb3⟩; rw [HV.out]; have hS3 := thn hS2 hb3))
  replace B := thn B hS3
  replace T := T.next hS3
  clear hb hb2 hb3 hS1 hS2 hS3 L0 L1
  obtain ⟨t0, t1, t2, t3, tl⟩ := id T
  go_wp2_with fail
  clear t0 t1 t2 t3 tl
  refine (Of_any _ _ _).mono ?_
  rintro e y1 ⟨rfl, hb⟩
  rw [HO.out]
  replace B := alc (thn B hb) (.cells #[.int .i64 (0), .int .i64 (0), .int .i64 (0)] 26)
  replace T := (T.next hb).alc (.cells #[.int .i64 (0), .int .i64 (0), .int .i64 (0)] 26)
  have V := c3_new y1 (.int .i64 (0)) (.int .i64 (0)) (.int .i64 (0)) 26
  clear hb
  obtain ⟨t0, t1, t2, t3, tl⟩ := id T
  go_wp2_with fail
  clear t0 t1 t2 t3 tl
  generalize y1.alloc (.cells #[.int .i64 (0), .int .i64 (0), .int .i64 (0)] 26) = z1 at *
  generalize y1.heap.size = bv at *
  refine (rOf_any _ _ _).mono ?_
  rintro e y2 ⟨rfl, hb⟩
  rw [HO.out]
  replace B := alc (thn B hb) (.cells #[.int .i64 (0), .int .i64 (0), .int .i64 (0)] 26)
  replace T := (T.next hb).alc (.cells #[.int .i64 (0), .int .i64 (0), .int .i64 (0)] 26)
  replace V := (V.next hb).alc (.cells #[.int .i64 (0), .int .i64 (0), .int .i64 (0)] 26)
  have V2 := c3_new y2 (.int .i64 (0)) (.int .i64 (0)) (.int .i64 (0)) 26
  clear hb
  obtain ⟨v0, v1, v2, v3, v4, v5, vl⟩ := id V
  obtain ⟨x0, x1, x2, x3, x4, x5, xl⟩ := id V2
  go_wp2
  go_ret
  exact ⟨rfl, B⟩
set_option maxHeartbeats 4000000 in
theorem vectors_ok (a b : Int) (w : World) (h : vd a b = true) :
    Calls Try.prog 3 #[posV a b] w fun e w' => e = .returned (.bool true) ∧ Below w.heap.size w w' := by
  obtain ⟨c, d, hp, hv, hd, hle⟩ := vectors_plain a b h
  have HO := Lib.hid (show ofv a b = (rd (cn a * cn b), rd (cn a * sn b), sn a, 0) by simp [ofv, h])
  have HV := Lib.hid h
  have HP := Lib.hid hp
  have HD := Lib.hid hd
  clear h hp hv hd
  go_enter Try.func3, Try.ntmps3
  go_wp2_with fail
  have B := below_alloc1 w (.cells #[.int .i64 a, .int .i64 b] 23)
  have T := c2_new w (.int .i64 a) (.int .i64 b) 23
  generalize w.alloc (.cells #[.int .i64 a, .int .i64 b] 23) = w0 at *
  have L0 : ∀ w', Below w0.heap.size w0 w' → w'.cell? ⟨w.heap.size, 0, none⟩ = some (.int .i64 a) := fun _ h => (T.next h).c0
  have L1 : ∀ w', Below w0.heap.size w0 w' → w'.cell? ⟨w.heap.size, 1, none⟩ = some (.int .i64 b) := fun _ h => (T.next h).c1
  go_region_held3 (fun w' => Below w0.heap.size w0 w') (first | with_reducible exact bdrew _ | with_reducible exact hS3 | with_reducible exact hS2 | with_reducible exact hS1)
    (first | (go_at_call 15; refine (awake_any _).mono ?_; rintro e x1 ⟨rfl, hb⟩; have hS1 := thn (bdrew w0) hb) | (go_at_call 16; refine (valid_any _ _ _).mono ?_; rintro e x2 ⟨rfl, hb2⟩; rw [HV.out]; have hS2 := thn hS1 hb2) | (go_at_call 17; refine (rvalid_any _ _ _).mono ?_; rintro e x3 ⟨rfl, hb3⟩; rw [HV.out]; have hS3 := thn hS2 hb3))
  replace B := thn B hS3
  replace T := T.next hS3
  clear hb hb2 hb3 hS1 hS2 hS3 L0 L1
  obtain ⟨t0, t1, t2, t3, tl⟩ := id T
  go_wp2_with fail
  clear t0 t1 t2 t3 tl
  refine (Of_any _ _ _).mono ?_
  rintro e y1 ⟨rfl, hb⟩
  rw [HO.out]
  replace B := alc (thn B hb) (.cells #[.int .i64 (rd (cn a * cn b)), .int .i64 (rd (cn a * sn b)), .int .i64 (sn a)] 26)
  replace T := (T.next hb).alc (.cells #[.int .i64 (rd (cn a * cn b)), .int .i64 (rd (cn a * sn b)), .int .i64 (sn a)] 26)
  have V := c3_new y1 (.int .i64 (rd (cn a * cn b))) (.int .i64 (rd (cn a * sn b))) (.int .i64 (sn a)) 26
  clear hb
  obtain ⟨t0, t1, t2, t3, tl⟩ := id T
  go_wp2_with fail
  clear t0 t1 t2 t3 tl
  generalize y1.alloc (.cells #[.int .i64 (rd (cn a * cn b)), .int .i64 (rd (cn a * sn b)), .int .i64 (sn a)] 26) = z1 at *
  generalize y1.heap.size = bv at *
  refine (rOf_any _ _ _).mono ?_
  rintro e y2 ⟨rfl, hb⟩
  rw [HO.out]
  replace B := alc (thn B hb) (.cells #[.int .i64 (rd (cn a * cn b)), .int .i64 (rd (cn a * sn b)), .int .i64 (sn a)] 26)
  replace T := (T.next hb).alc (.cells #[.int .i64 (rd (cn a * cn b)), .int .i64 (rd (cn a * sn b)), .int .i64 (sn a)] 26)
  replace V := (V.next hb).alc (.cells #[.int .i64 (rd (cn a * cn b)), .int .i64 (rd (cn a * sn b)), .int .i64 (sn a)] 26)
  have V2 := c3_new y2 (.int .i64 (rd (cn a * cn b))) (.int .i64 (rd (cn a * sn b))) (.int .i64 (sn a)) 26
  clear hb
  have q0 := beq_rfl (rd (cn a * cn b))
  have q1 := beq_rfl (rd (cn a * sn b))
  have q2 := beq_rfl (sn a)
  obtain ⟨v0, v1, v2, v3, v4, v5, vl⟩ := id V
  obtain ⟨x0, x1, x2, x3, x4, x5, xl⟩ := id V2
  go_wp2_with fail
  clear v0 v1 v2 v3 v4 v5 vl x0 x1 x2 x3 x4 x5 xl V V2
  generalize y2.alloc (.cells #[.int .i64 (rd (cn a * cn b)), .int .i64 (rd (cn a * sn b)), .int .i64 (sn a)] 26) = z2 at *
  refine (pos_any _ _ _ _).mono ?_
  rintro e y3 ⟨rfl, hb⟩
  rw [HP.out]
  replace B := alc (thn B hb) (.cells #[.int .i64 c, .int .i64 d] 23)
  replace T := (T.next hb).alc (.cells #[.int .i64 c, .int .i64 d] 23)
  have Q := c2_new y3 (.int .i64 c) (.int .i64 d) 23
  clear hb
  obtain ⟨t0, t1, t2, t3, tl⟩ := id T
  obtain ⟨u0, u1, u2, u3, ul⟩ := id Q
  go_wp2_with fail
  clear t0 t1 t2 t3 tl u0 u1 u2 u3 ul T Q
  generalize y3.alloc (.cells #[.int .i64 c, .int .i64 d] 23) = z3 at *
  refine (dist_any _ _ _ _ _).mono ?_
  rintro e y4 ⟨rfl, hb⟩
  rw [HD.out]
  replace B := thn B hb
  clear hb
  generalize dv a b c d = D at *
  go_wp2
  go_ret
  exact ⟨rfl, B⟩
theorem sphereVectors_walk (a b : Int) (_ : -9223372036854775808 ≤ a ∧ a ≤ 9223372036854775807) (_ : -9223372036854775808 ≤ b ∧ b ≤ 9223372036854775807) (w : World) :
    Calls Try.prog 3 #[posV a b] w fun e w' => e = .returned (.bool true) ∧ Below w.heap.size w w' := by
  cases h : vd a b
  · exact vectors_no a b w h
  · exact vectors_ok a b w h
end Go.Proofs.Ytgcmmfclnialfaa
