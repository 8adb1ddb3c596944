/- The laws of chapter 10 that need no tolerance. -/
import Derived.Test.YtmlacekgmdlfjaaAwake10
namespace Go.Proofs.Ytmlacekgmdlfjaa
open Go.RowKit Go.Joins Fdk
set_option linter.unusedVariables false
theorem beq_rfl (x : Int) : (x == x) = true := by simp
set_option maxHeartbeats 1600000 in
theorem planeProjects_walk (a b : Int) (_ : -9223372036854775808 ≤ a ∧ a ≤ 9223372036854775807) (_ : -9223372036854775808 ≤ b ∧ b ≤ 9223372036854775807) (c d : Int) (_ : -9223372036854775808 ≤ c ∧ c ≤ 9223372036854775807) (_ : -9223372036854775808 ≤ d ∧ d ≤ 9223372036854775807) (w : World) :
    Calls Try.prog 7 #[posV a b, posV c d] w fun e w' => e = .returned (.bool true) ∧ Below w.heap.size w w' := by
  have HA := Lib.hid (fun w => to_any a b c d w)
  have HR := Lib.hid (fun w => rto_any a b c d w)
  have HI := Lib.hid (fun w => inside_any a b c d w)
  generalize tov a b c d = R at HA HR HI
  go_enter Try.func7, Try.ntmps7
  go_wp2_with fail
  refine (awake_any _).mono ?_
  rintro e w1 ⟨rfl, hb⟩
  have B := thn (below_alloc2 w _ _) hb
  have T := ((c2_new w (.int .i64 a) (.int .i64 b) 23).alc _).next hb
  have U := (c2_new _ (.int .i64 c) (.int .i64 d) 23).next hb
  simp only [World.alloc, Array.size_push] at U
  clear hb
  obtain ⟨t0, t1, t2, t3, tl⟩ := id T
  obtain ⟨u0, u1, u2, u3, ul⟩ := id U
  go_wp2_with fail
  clear t0 t1 t2 t3 tl u0 u1 u2 u3 ul
  refine (HA.out _).mono ?_
  rintro e w2 ⟨rfl, hb⟩
  replace B := alc (thn B hb) (.cells #[.int .i64 R.1, .int .i64 R.2.1] 25)
  replace T := (T.next hb).alc (.cells #[.int .i64 R.1, .int .i64 R.2.1] 25)
  replace U := (U.next hb).alc (.cells #[.int .i64 R.1, .int .i64 R.2.1] 25)
  have V := c2_new w2 (.int .i64 R.1) (.int .i64 R.2.1) 25
  clear hb
  obtain ⟨t0, t1, t2, t3, tl⟩ := id T
  obtain ⟨u0, u1, u2, u3, ul⟩ := id U
  go_wp2_with fail
  clear t0 t1 t2 t3 tl u0 u1 u2 u3 ul
  generalize w2.alloc (.cells #[.int .i64 R.1, .int .i64 R.2.1] 25) = v2 at *
  generalize w2.heap.size = bv at *
  refine (HR.out _).mono ?_
  rintro e w3 ⟨rfl, hb⟩
  replace B := alc (thn B hb) (.cells #[.int .i64 R.1, .int .i64 R.2.1] 25)
  replace T := (T.next hb).alc (.cells #[.int .i64 R.1, .int .i64 R.2.1] 25)
  replace U := (U.next hb).alc (.cells #[.int .i64 R.1, .int .i64 R.2.1] 25)
  replace V := (V.next hb).alc (.cells #[.int .i64 R.1, .int .i64 R.2.1] 25)
  have V2 := c2_new w3 (.int .i64 R.1) (.int .i64 R.2.1) 25
  clear hb
  have q0 := beq_rfl R.1
  have q1 := beq_rfl R.2.1
  have q2 := beq_rfl R.2.2
  obtain ⟨t0, t1, t2, t3, tl⟩ := id T
  obtain ⟨u0, u1, u2, u3, ul⟩ := id U
  obtain ⟨v0, v1, v2', v3, vl⟩ := id V
  obtain ⟨x0, x1, x2, x3, xl⟩ := id V2
  go_wp2_with fail
  clear t0 t1 t2 t3 tl u0 u1 u2 u3 ul v0 v1 v2' v3 vl x0 x1 x2 x3 xl T U V V2
  refine (HI.out _).mono ?_
  rintro e w4 ⟨rfl, hb⟩
  replace B := thn B hb
  clear hb
  cases hz : R.2.2 == 0
  · go_wp2
    go_ret
    exact ⟨rfl, B⟩
  · go_wp2
    go_ret
    exact ⟨rfl, B⟩
set_option maxHeartbeats 1600000 in
theorem planeReturns_walk (a b : Int) (_ : -9223372036854775808 ≤ a ∧ a ≤ 9223372036854775807) (_ : -9223372036854775808 ≤ b ∧ b ≤ 9223372036854775807) (x y : Int) (_ : -9223372036854775808 ≤ x ∧ x ≤ 9223372036854775807) (_ : -9223372036854775808 ≤ y ∧ y ≤ 9223372036854775807) (w : World) :
    Calls Try.prog 3 #[posV a b, ptV x y] w fun e w' => e = .returned (.bool true) ∧ Below w.heap.size w w' := by
  have HA := Lib.hid (fun w => from_any a b x y w)
  have HR := Lib.hid (fun w => rfrom_any a b x y w)
  generalize frv a b x y = R at HA HR
  have HV := Lib.hid (fun w => pvalid_any x y w)
  have HW := Lib.hid (fun w => rpvalid_any x y w)
  generalize pvd x y = V at HV HW
  have qv : (V == V) = true := by simp
  go_enter Try.func3, Try.ntmps3
  go_wp2_with fail
  have B := below_alloc2 w (.cells #[.int .i64 a, .int .i64 b] 23) (.cells #[.int .i64 x, .int .i64 y] 25)
  have T := (c2_new w (.int .i64 a) (.int .i64 b) 23).alc (.cells #[.int .i64 x, .int .i64 y] 25)
  have U := c2_new (w.alloc (.cells #[.int .i64 a, .int .i64 b] 23)) (.int .i64 x) (.int .i64 y) 25
  rw [show (w.alloc (.cells #[.int .i64 a, .int .i64 b] 23)).heap.size = w.heap.size + 1 by simp] at U
  generalize (w.alloc (.cells #[.int .i64 a, .int .i64 b] 23)).alloc (.cells #[.int .i64 x, .int .i64 y] 25) = w0 at *
  have L0 : ∀ w', Below w0.heap.size w0 w' → w'.cell? ⟨w.heap.size + 1, 0, none⟩ = some (.int .i64 x) := fun _ h => (U.next h).c0
  have L1 : ∀ w', Below w0.heap.size w0 w' → w'.cell? ⟨w.heap.size + 1, 1, none⟩ = some (.int .i64 y) := fun _ h => (U.next h).c1
  go_region_held3 (fun w' => Below w0.heap.size w0 w') (first | with_reducible exact bdrew _ | with_reducible exact hS3 | with_reducible exact hS2 | with_reducible exact hS1)
    (first | (go_at_call 11; refine (awake_any _).mono ?_; rintro e x1 ⟨rfl, hb⟩; have hS1 := thn (bdrew w0) hb) | (go_at_call 12; refine (HV.out _).mono ?_; rintro e x2 ⟨rfl, hb2⟩; have hS2 := thn hS1 hb2) | (go_at_call 13; refine (HW.out _).mono ?_; rintro e x3 ⟨rfl, hb3⟩; have hS3 := thn hS2 hb3))
  replace B := thn B hS3
  replace T := T.next hS3
  replace U := U.next hS3
  clear hb hb2 hb3 hS1 hS2 hS3 L0 L1
  obtain ⟨t0, t1, t2, t3, tl⟩ := id T
  obtain ⟨u0, u1, u2, u3, ul⟩ := id U
  go_wp2_with fail
  clear t0 t1 t2 t3 tl u0 u1 u2 u3 ul
  refine (HA.out _).mono ?_
  rintro e w2 ⟨rfl, hb⟩
  replace B := alc (thn B hb) (.cells #[.int .i64 R.1, .int .i64 R.2.1] 23)
  replace T := (T.next hb).alc (.cells #[.int .i64 R.1, .int .i64 R.2.1] 23)
  replace U := (U.next hb).alc (.cells #[.int .i64 R.1, .int .i64 R.2.1] 23)
  have V0 := c2_new w2 (.int .i64 R.1) (.int .i64 R.2.1) 23
  clear hb
  obtain ⟨t0, t1, t2, t3, tl⟩ := id T
  obtain ⟨u0, u1, u2, u3, ul⟩ := id U
  go_wp2_with fail
  clear t0 t1 t2 t3 tl u0 u1 u2 u3 ul T U
  generalize w2.alloc (.cells #[.int .i64 R.1, .int .i64 R.2.1] 23) = v2 at *
  generalize w2.heap.size = bv at *
  refine (HR.out _).mono ?_
  rintro e w3 ⟨rfl, hb⟩
  replace B := alc (thn B hb) (.cells #[.int .i64 R.1, .int .i64 R.2.1] 23)
  replace V0 := (V0.next hb).alc (.cells #[.int .i64 R.1, .int .i64 R.2.1] 23)
  have V2 := c2_new w3 (.int .i64 R.1) (.int .i64 R.2.1) 23
  clear hb
  have q0 := beq_rfl R.1
  have q1 := beq_rfl R.2.1
  have q2 := beq_rfl R.2.2
  obtain ⟨v0, v1, v2', v3, vl⟩ := id V0
  obtain ⟨x0, x1, x2, x3', xl⟩ := id V2
  go_wp2
  go_ret
  exact ⟨rfl, B⟩
theorem tov_near {a b c d : Int} (h : (org a b && vd c d) = true) (hx : -20 ≤ lx b c d ∧ lx b c d ≤ 20) (hy : -20 ≤ ly a b c d ∧ ly a b c d ≤ 20) (hz : 1000000000 ≤ lz a b c d) : tov a b c d = (0, 0, 0) := by
  have z : ∀ {k L : Int}, -20 ≤ k ∧ k ≤ 20 → 1000000000 ≤ L → qnear (20626481 * k) L = 0 := fun {k L} hk hL => by
    unfold qnear
    apply Int.ediv_eq_zero_of_lt <;> omega
  unfold tov
  rw [if_pos h, if_neg (by omega), z hx hz, z hy hz]
  rfl
theorem tov_self (a b : Int) (h : org a b = true) : tov a b a b = (0, 0, 0) := by
  refine tov_near (by rw [h, org_vd h]; rfl) ?_ ?_ ?_
  · obtain ⟨e0, h0, a0, b0⟩ := rd_err (cn a * cn b)
    obtain ⟨e1, h1, a1, b1⟩ := rd_err (cn a * sn b)
    have bc := cn_b b
    have bs := sn_b b
    have hs := absum2 b
    unfold lx
    have E0 := mul_ab (a := sn b) (e := e0) (M := 536870912) a0 b0 (by omega)
    have E1 := mul_ab (a := cn b) (e := e1) (M := 536870912) a1 b1 (by omega)
    have I : 1073741824 * (-sn b * rd (cn a * cn b) + cn b * rd (cn a * sn b)) = cn b * e1 - sn b * e0 := by grind
    generalize -sn b * rd (cn a * cn b) + cn b * rd (cn a * sn b) = X at *
    generalize cn b * e1 = P at *
    generalize sn b * e0 = Q at *
    clear h0 h1
    unfold rd
    omega
  · obtain ⟨e0, h0, a0, b0⟩ := rd_err (cn a * cn b)
    obtain ⟨e1, h1, a1, b1⟩ := rd_err (cn a * sn b)
    obtain ⟨e2, h2, a2, b2⟩ := rd_err (sn a * cn b)
    obtain ⟨e3, h3, a3, b3⟩ := rd_err (sn a * sn b)
    have hq := sq_all b
    unfold SqOk at hq
    obtain ⟨e4, h4, a4, b4⟩ : ∃ e4, cn b * cn b + sn b * sn b = 1152921504606846976 + e4 ∧ -5368709120 ≤ e4 ∧ e4 ≤ 5368709120 := ⟨cn b * cn b + sn b * sn b - 1152921504606846976, by omega, by omega, by omega⟩
    have bC := cn_b a
    have bS := sn_b a
    have bc := cn_b b
    have bs := sn_b b
    have bu0 := one_rd (cc_b a b)
    have bu1 := one_rd (cs_b a b)
    have b0 := pb 576460752303423488 ⟨a2, b2⟩ bu0 (by omega) (by decide)
    have b1 := pb 576460752303423488 ⟨a3, b3⟩ bu1 (by omega) (by decide)
    unfold ly
    have x0 := pb 1152921504606846976 bS bc (by omega) (by decide)
    have x1 := pb 1152921504606846976 bS bs (by omega) (by decide)
    have x2 := pb 1152921504606846976 bS bC (by omega) (by decide)
    have y0 := pb 618970019642690137449562112 x0 (q := e0) (B := 536870912) (by omega) (by omega) (by decide)
    have y1 := pb 618970019642690137449562112 x1 (q := e1) (B := 536870912) (by omega) (by omega) (by decide)
    have y2 := pb 6189700196426901374495621120 x2 (q := e4) (B := 5368709120) (by omega) (by omega) (by decide)
    have I : 1152921504606846976 * (-rd (sn a * cn b) * rd (cn a * cn b) + -rd (sn a * sn b) * rd (cn a * sn b) + cn a * sn a) = -1073741824 * (e2 * rd (cn a * cn b)) - 1073741824 * (e3 * rd (cn a * sn b)) - sn a * cn b * e0 - sn a * sn b * e1 - sn a * cn a * e4 := by grind
    generalize -rd (sn a * cn b) * rd (cn a * cn b) + -rd (sn a * sn b) * rd (cn a * sn b) + cn a * sn a = X at *
    generalize e2 * rd (cn a * cn b) = P0 at *
    generalize e3 * rd (cn a * sn b) = P1 at *
    generalize sn a * cn b * e0 = P2 at *
    generalize sn a * sn b * e1 = P3 at *
    generalize sn a * cn a * e4 = P4 at *
    clear h0 h1 h2 h3 h4 hq
    unfold rd
    omega
  · have h := norm_b a b
    unfold lz
    generalize rd (cn a * cn b) * rd (cn a * cn b) + rd (cn a * sn b) * rd (cn a * sn b) + sn a * sn a = X at *
    unfold rd
    omega
theorem frv_cases (a b x y : Int) : frv a b x y = (0, 0, 1) ∨ (frv a b x y = (0, 0, 2) ∧ pvd x y = false) ∨ (∃ u v, frv a b x y = (u, v, 0) ∧ pvd x y = true) := by
  unfold frv
  cases h1 : org a b
  · exact .inl rfl
  cases h2 : pvd x y
  · exact .inr (.inl ⟨rfl, rfl⟩)
  · rw [if_pos rfl, if_pos rfl]
    unfold posn
    split
    · exact .inl rfl
    · exact .inr (.inr ⟨_, _, rfl, rfl⟩)
theorem tov_cases (a b c d : Int) : tov a b c d = (0, 0, 1) ∨ (tov a b c d = (0, 0, 2) ∧ vd c d = true) ∨ (∃ u v, tov a b c d = (u, v, 0) ∧ vd c d = true ∧ pvd u v = true) := by
  unfold tov
  cases h1 : org a b
  · exact .inl rfl
  cases h2 : vd c d
  · exact .inl rfl
  · rw [if_pos (show (true && true) = true from rfl)]
    split
    · exact .inr (.inl ⟨rfl, rfl⟩)
    · split
      · next h => exact .inr (.inr ⟨_, _, rfl, rfl, h⟩)
      · exact .inr (.inl ⟨rfl, rfl⟩)
theorem pvd_0 : pvd 0 0 = true := by decide
set_option maxHeartbeats 4000000 in
theorem planeOrigin_walk (a b : Int) (_ : -9223372036854775808 ≤ a ∧ a ≤ 9223372036854775807) (_ : -9223372036854775808 ≤ b ∧ b ≤ 9223372036854775807) (w : World) :
    Calls Try.prog 5 #[posV a b] w fun e w' => e = .returned (.bool true) ∧ Below w.heap.size w w' := by
  rcases org_cases a b with ⟨h1, hh⟩ | ⟨h1, h2, hh⟩ | ⟨h1, h2, h3, hh⟩ | ⟨h1, h2, h3, hh⟩
  all_goals
    have HV := Lib.hid h1
    have HT := Lib.hid (show tov a b a b = (0, 0, if org a b then 0 else 1) by
      first
        | (rw [hh.out]; exact tov_self a b hh.out)
        | (unfold tov; rw [hh.out]; rfl))
    rw [hh.out] at HT
    clear h1 hh
    go_enter Try.func5, Try.ntmps5
    go_wp2_with fail
    refine (awake_any _).mono ?_
    rintro e w1 ⟨rfl, hb⟩
    have B := thn (below_alloc1 w _) hb
    have T := (c2_new w (.int .i64 a) (.int .i64 b) 23).next hb
    clear hb
    obtain ⟨t0, t1, t2, t3, tl⟩ := id T
    go_wp2_with fail
    clear t0 t1 t2 t3 tl
    refine (to_any _ _ _ _ _).mono ?_
    rintro e w2 ⟨rfl, hb⟩
    rw [HT.out]
    replace B := alc (thn B hb) (.cells #[.int .i64 0, .int .i64 0] 25)
    replace T := (T.next hb).alc (.cells #[.int .i64 0, .int .i64 0] 25)
    have P := c2_new w2 (.int .i64 0) (.int .i64 0) 25
    clear hb
    obtain ⟨t0, t1, t2, t3, tl⟩ := id T
    go_wp2_with fail
    clear t0 t1 t2 t3 tl
    generalize w2.alloc (.cells #[.int .i64 0, .int .i64 0] 25) = v2 at *
    generalize w2.heap.size = bp at *
    refine (valid_any _ _ _).mono ?_
    rintro e w3 ⟨rfl, hb⟩
    replace B := thn B hb
    replace T := T.next hb
    replace P := P.next hb
    clear hb
    rw [HV.out]
    obtain ⟨t0, t1, t2, t3, tl⟩ := id T
    obtain ⟨p0, p1, p2, p3, pl⟩ := id P
    go_wp2
    go_ret
    exact ⟨rfl, B⟩
set_option maxHeartbeats 8000000 in
theorem planeBorder_walk (a b : Int) (_ : -9223372036854775808 ≤ a ∧ a ≤ 9223372036854775807) (_ : -9223372036854775808 ≤ b ∧ b ≤ 9223372036854775807) (c d : Int) (_ : -9223372036854775808 ≤ c ∧ c ≤ 9223372036854775807) (_ : -9223372036854775808 ≤ d ∧ d ≤ 9223372036854775807) (x y : Int) (_ : -9223372036854775808 ≤ x ∧ x ≤ 9223372036854775807) (_ : -9223372036854775808 ≤ y ∧ y ≤ 9223372036854775807) (w : World) :
    Calls Try.prog 6 #[posV a b, posV c d, ptV x y] w fun e w' => e = .returned (.bool true) ∧ Below w.heap.size w w' := by
  have HF := Lib.hid (frv_cases a b x y)
  have HT := Lib.hid (tov_cases a b c d)
  have HP := Lib.hid pvd_0
  go_enter Try.func6, Try.ntmps6
  go_wp2_with fail
  refine (awake_any _).mono ?_
  rintro e w1 ⟨rfl, hb⟩
  have B := thn (below_alloc3 w _ _ _) hb
  have T := (((c2_new w (.int .i64 a) (.int .i64 b) 23).alc _).alc _).next hb
  have U := ((c2_new _ (.int .i64 c) (.int .i64 d) 23).alc _).next hb
  have X := (c2_new _ (.int .i64 x) (.int .i64 y) 25).next hb
  simp only [World.alloc, Array.size_push] at U X
  clear hb
  obtain ⟨t0, t1, t2, t3, tl⟩ := id T
  obtain ⟨x0, x1, x2, x3, xl⟩ := id X
  go_wp2_with fail
  clear t0 t1 t2 t3 tl x0 x1 x2 x3 xl
  refine (from_any _ _ _ _ _).mono ?_
  rintro e w2 ⟨rfl, hb⟩
  replace B := alc (thn B hb) (.cells #[.int .i64 (frv a b x y).1, .int .i64 (frv a b x y).2.1] 23)
  replace T := (T.next hb).alc (.cells #[.int .i64 (frv a b x y).1, .int .i64 (frv a b x y).2.1] 23)
  replace U := (U.next hb).alc (.cells #[.int .i64 (frv a b x y).1, .int .i64 (frv a b x y).2.1] 23)
  replace X := (X.next hb).alc (.cells #[.int .i64 (frv a b x y).1, .int .i64 (frv a b x y).2.1] 23)
  have V := c2_new w2 (.int .i64 (frv a b x y).1) (.int .i64 (frv a b x y).2.1) 23
  clear hb
  rcases HF.out with hf | ⟨hf, hv⟩ | ⟨f0, f1, hf, hv⟩
  ·
    have HF2 := Lib.hid hf
    rw [hf] at B T U X V ⊢
    clear hf HF
    obtain ⟨v0, v1, v2, v3, vl⟩ := id V
    obtain ⟨x0, x1, x2, x3, xl⟩ := id X
    obtain ⟨t0, t1, t2, t3, tl⟩ := id T
    obtain ⟨u0, u1, u2, u3, ul⟩ := id U
    go_wp2_with fail
    clear v0 v1 v2 v3 vl x0 x1 x2 x3 xl t0 t1 t2 t3 tl u0 u1 u2 u3 ul
    generalize w2.alloc (.cells #[.int .i64 0, .int .i64 0] 23) = y2 at *
    refine (to_any _ _ _ _ _).mono ?_
    rintro e w4 ⟨rfl, hb⟩
    replace B := thn B hb
    replace U := U.next hb
    clear hb T X V
    rcases HT.out with hf | ⟨hf, hv⟩ | ⟨g0, g1, hf, hv, hq⟩
    · rw [hf]
      replace B := alc B (.cells #[.int .i64 0, .int .i64 0] 25)
      replace U := U.alc (.cells #[.int .i64 0, .int .i64 0] 25)
      have Y := c2_new w4 (.int .i64 0) (.int .i64 0) 25
      have HY := Lib.hid pvd_0
      clear hf HT
      obtain ⟨y0, y1, y2', y3', yl⟩ := id Y
      obtain ⟨u0, u1, u2, u3, ul⟩ := id U
      go_wp2_with fail
      clear y0 y1 y2' y3' yl u0 u1 u2 u3 ul
      generalize w4.alloc (.cells #[.int .i64 0, .int .i64 0] 25) = v4 at *
      generalize w4.heap.size = by' at *
      refine (pvalid_any _ _ _).mono ?_
      rintro e w5 ⟨rfl, hb⟩
      replace B := thn B hb
      replace U := U.next hb
      replace Y := Y.next hb
      clear hb
      rw [HY.out]
      obtain ⟨y0, y1, y2', y3', yl⟩ := id Y
      obtain ⟨u0, u1, u2, u3, ul⟩ := id U
      go_wp2
      go_ret
      exact ⟨rfl, B⟩
    · rw [hf]
      replace B := alc B (.cells #[.int .i64 0, .int .i64 0] 25)
      replace U := U.alc (.cells #[.int .i64 0, .int .i64 0] 25)
      have Y := c2_new w4 (.int .i64 0) (.int .i64 0) 25
      have HY := Lib.hid pvd_0
      have HQ := Lib.hid hv
      clear hv
      clear hf HT
      obtain ⟨y0, y1, y2', y3', yl⟩ := id Y
      obtain ⟨u0, u1, u2, u3, ul⟩ := id U
      go_wp2_with fail
      clear y0 y1 y2' y3' yl u0 u1 u2 u3 ul
      generalize w4.alloc (.cells #[.int .i64 0, .int .i64 0] 25) = v4 at *
      generalize w4.heap.size = by' at *
      refine (pvalid_any _ _ _).mono ?_
      rintro e w5 ⟨rfl, hb⟩
      replace B := thn B hb
      replace U := U.next hb
      replace Y := Y.next hb
      clear hb
      rw [HY.out]
      obtain ⟨y0, y1, y2', y3', yl⟩ := id Y
      obtain ⟨u0, u1, u2, u3, ul⟩ := id U
      go_wp2_with fail
      clear y0 y1 y2' y3' yl u0 u1 u2 u3 ul
      refine (valid_any _ _ _).mono ?_
      rintro e w6 ⟨rfl, hb⟩
      replace B := thn B hb
      clear hb
      rw [HQ.out]
      go_wp2
      go_ret
      exact ⟨rfl, B⟩
    · rw [hf]
      replace B := alc B (.cells #[.int .i64 g0, .int .i64 g1] 25)
      replace U := U.alc (.cells #[.int .i64 g0, .int .i64 g1] 25)
      have Y := c2_new w4 (.int .i64 g0) (.int .i64 g1) 25
      have HY := Lib.hid hq
      clear hq
      have HQ := Lib.hid hv
      clear hv
      clear hf HT
      obtain ⟨y0, y1, y2', y3', yl⟩ := id Y
      obtain ⟨u0, u1, u2, u3, ul⟩ := id U
      go_wp2_with fail
      clear y0 y1 y2' y3' yl u0 u1 u2 u3 ul
      generalize w4.alloc (.cells #[.int .i64 g0, .int .i64 g1] 25) = v4 at *
      generalize w4.heap.size = by' at *
      refine (pvalid_any _ _ _).mono ?_
      rintro e w5 ⟨rfl, hb⟩
      replace B := thn B hb
      replace U := U.next hb
      replace Y := Y.next hb
      clear hb
      rw [HY.out]
      obtain ⟨y0, y1, y2', y3', yl⟩ := id Y
      obtain ⟨u0, u1, u2, u3, ul⟩ := id U
      go_wp2_with fail
      clear y0 y1 y2' y3' yl u0 u1 u2 u3 ul
      refine (valid_any _ _ _).mono ?_
      rintro e w6 ⟨rfl, hb⟩
      replace B := thn B hb
      clear hb
      rw [HQ.out]
      go_wp2
      go_ret
      exact ⟨rfl, B⟩
  ·
    have HF2 := Lib.hid hf
    rw [hf] at B T U X V ⊢
    clear hf HF
    have HV := Lib.hid hv
    clear hv
    obtain ⟨v0, v1, v2, v3, vl⟩ := id V
    obtain ⟨x0, x1, x2, x3, xl⟩ := id X
    obtain ⟨t0, t1, t2, t3, tl⟩ := id T
    obtain ⟨u0, u1, u2, u3, ul⟩ := id U
    go_wp2_with fail
    clear v0 v1 v2 v3 vl x0 x1 x2 x3 xl t0 t1 t2 t3 tl u0 u1 u2 u3 ul
    generalize w2.alloc (.cells #[.int .i64 0, .int .i64 0] 23) = y2 at *
    refine (pvalid_any _ _ _).mono ?_
    rintro e y3 ⟨rfl, hb⟩
    replace B := thn B hb
    replace T := T.next hb
    replace U := U.next hb
    clear hb
    rw [HV.out]
    obtain ⟨t0, t1, t2, t3, tl⟩ := id T
    obtain ⟨u0, u1, u2, u3, ul⟩ := id U
    go_wp2_with fail
    clear t0 t1 t2 t3 tl u0 u1 u2 u3 ul
    refine (to_any _ _ _ _ _).mono ?_
    rintro e w4 ⟨rfl, hb⟩
    replace B := thn B hb
    replace U := U.next hb
    clear hb T X V
    rcases HT.out with hf | ⟨hf, hv⟩ | ⟨g0, g1, hf, hv, hq⟩
    · rw [hf]
      replace B := alc B (.cells #[.int .i64 0, .int .i64 0] 25)
      replace U := U.alc (.cells #[.int .i64 0, .int .i64 0] 25)
      have Y := c2_new w4 (.int .i64 0) (.int .i64 0) 25
      have HY := Lib.hid pvd_0
      clear hf HT
      obtain ⟨y0, y1, y2', y3', yl⟩ := id Y
      obtain ⟨u0, u1, u2, u3, ul⟩ := id U
      go_wp2_with fail
      clear y0 y1 y2' y3' yl u0 u1 u2 u3 ul
      generalize w4.alloc (.cells #[.int .i64 0, .int .i64 0] 25) = v4 at *
      generalize w4.heap.size = by' at *
      refine (pvalid_any _ _ _).mono ?_
      rintro e w5 ⟨rfl, hb⟩
      replace B := thn B hb
      replace U := U.next hb
      replace Y := Y.next hb
      clear hb
      rw [HY.out]
      obtain ⟨y0, y1, y2', y3', yl⟩ := id Y
      obtain ⟨u0, u1, u2, u3, ul⟩ := id U
      go_wp2
      go_ret
      exact ⟨rfl, B⟩
    · rw [hf]
      replace B := alc B (.cells #[.int .i64 0, .int .i64 0] 25)
      replace U := U.alc (.cells #[.int .i64 0, .int .i64 0] 25)
      have Y := c2_new w4 (.int .i64 0) (.int .i64 0) 25
      have HY := Lib.hid pvd_0
      have HQ := Lib.hid hv
      clear hv
      clear hf HT
      obtain ⟨y0, y1, y2', y3', yl⟩ := id Y
      obtain ⟨u0, u1, u2, u3, ul⟩ := id U
      go_wp2_with fail
      clear y0 y1 y2' y3' yl u0 u1 u2 u3 ul
      generalize w4.alloc (.cells #[.int .i64 0, .int .i64 0] 25) = v4 at *
      generalize w4.heap.size = by' at *
      refine (pvalid_any _ _ _).mono ?_
      rintro e w5 ⟨rfl, hb⟩
      replace B := thn B hb
      replace U := U.next hb
      replace Y := Y.next hb
      clear hb
      rw [HY.out]
      obtain ⟨y0, y1, y2', y3', yl⟩ := id Y
      obtain ⟨u0, u1, u2, u3, ul⟩ := id U
      go_wp2_with fail
      clear y0 y1 y2' y3' yl u0 u1 u2 u3 ul
      refine (valid_any _ _ _).mono ?_
      rintro e w6 ⟨rfl, hb⟩
      replace B := thn B hb
      clear hb
      rw [HQ.out]
      go_wp2
      go_ret
      exact ⟨rfl, B⟩
    · rw [hf]
      replace B := alc B (.cells #[.int .i64 g0, .int .i64 g1] 25)
      replace U := U.alc (.cells #[.int .i64 g0, .int .i64 g1] 25)
      have Y := c2_new w4 (.int .i64 g0) (.int .i64 g1) 25
      have HY := Lib.hid hq
      clear hq
      have HQ := Lib.hid hv
      clear hv
      clear hf HT
      obtain ⟨y0, y1, y2', y3', yl⟩ := id Y
      obtain ⟨u0, u1, u2, u3, ul⟩ := id U
      go_wp2_with fail
      clear y0 y1 y2' y3' yl u0 u1 u2 u3 ul
      generalize w4.alloc (.cells #[.int .i64 g0, .int .i64 g1] 25) = v4 at *
      generalize w4.heap.size = by' at *
      refine (pvalid_any _ _ _).mono ?_
      rintro e w5 ⟨rfl, hb⟩
      replace B := thn B hb
      replace U := U.next hb
      replace Y := Y.next hb
      clear hb
      rw [HY.out]
      obtain ⟨y0, y1, y2', y3', yl⟩ := id Y
      obtain ⟨u0, u1, u2, u3, ul⟩ := id U
      go_wp2_with fail
      clear y0 y1 y2' y3' yl u0 u1 u2 u3 ul
      refine (valid_any _ _ _).mono ?_
      rintro e w6 ⟨rfl, hb⟩
      replace B := thn B hb
      clear hb
      rw [HQ.out]
      go_wp2
      go_ret
      exact ⟨rfl, B⟩
  ·
    have HF2 := Lib.hid hf
    rw [hf] at B T U X V ⊢
    clear hf HF
    have HV := Lib.hid hv
    clear hv
    obtain ⟨v0, v1, v2, v3, vl⟩ := id V
    obtain ⟨x0, x1, x2, x3, xl⟩ := id X
    obtain ⟨t0, t1, t2, t3, tl⟩ := id T
    obtain ⟨u0, u1, u2, u3, ul⟩ := id U
    go_wp2_with fail
    clear v0 v1 v2 v3 vl x0 x1 x2 x3 xl t0 t1 t2 t3 tl u0 u1 u2 u3 ul
    generalize w2.alloc (.cells #[.int .i64 f0, .int .i64 f1] 23) = y2 at *
    refine (pvalid_any _ _ _).mono ?_
    rintro e y3 ⟨rfl, hb⟩
    replace B := thn B hb
    replace T := T.next hb
    replace U := U.next hb
    clear hb
    rw [HV.out]
    obtain ⟨t0, t1, t2, t3, tl⟩ := id T
    obtain ⟨u0, u1, u2, u3, ul⟩ := id U
    go_wp2_with fail
    clear t0 t1 t2 t3 tl u0 u1 u2 u3 ul
    refine (to_any _ _ _ _ _).mono ?_
    rintro e w4 ⟨rfl, hb⟩
    replace B := thn B hb
    replace U := U.next hb
    clear hb T X V
    rcases HT.out with hf | ⟨hf, hv⟩ | ⟨g0, g1, hf, hv, hq⟩
    · rw [hf]
      replace B := alc B (.cells #[.int .i64 0, .int .i64 0] 25)
      replace U := U.alc (.cells #[.int .i64 0, .int .i64 0] 25)
      have Y := c2_new w4 (.int .i64 0) (.int .i64 0) 25
      have HY := Lib.hid pvd_0
      clear hf HT
      obtain ⟨y0, y1, y2', y3', yl⟩ := id Y
      obtain ⟨u0, u1, u2, u3, ul⟩ := id U
      go_wp2_with fail
      clear y0 y1 y2' y3' yl u0 u1 u2 u3 ul
      generalize w4.alloc (.cells #[.int .i64 0, .int .i64 0] 25) = v4 at *
      generalize w4.heap.size = by' at *
      refine (pvalid_any _ _ _).mono ?_
      rintro e w5 ⟨rfl, hb⟩
      replace B := thn B hb
      replace U := U.next hb
      replace Y := Y.next hb
      clear hb
      rw [HY.out]
      obtain ⟨y0, y1, y2', y3', yl⟩ := id Y
      obtain ⟨u0, u1, u2, u3, ul⟩ := id U
      go_wp2
      go_ret
      exact ⟨rfl, B⟩
    · rw [hf]
      replace B := alc B (.cells #[.int .i64 0, .int .i64 0] 25)
      replace U := U.alc (.cells #[.int .i64 0, .int .i64 0] 25)
      have Y := c2_new w4 (.int .i64 0) (.int .i64 0) 25
      have HY := Lib.hid pvd_0
      have HQ := Lib.hid hv
      clear hv
      clear hf HT
      obtain ⟨y0, y1, y2', y3', yl⟩ := id Y
      obtain ⟨u0, u1, u2, u3, ul⟩ := id U
      go_wp2_with fail
      clear y0 y1 y2' y3' yl u0 u1 u2 u3 ul
      generalize w4.alloc (.cells #[.int .i64 0, .int .i64 0] 25) = v4 at *
      generalize w4.heap.size = by' at *
      refine (pvalid_any _ _ _).mono ?_
      rintro e w5 ⟨rfl, hb⟩
      replace B := thn B hb
      replace U := U.next hb
      replace Y := Y.next hb
      clear hb
      rw [HY.out]
      obtain ⟨y0, y1, y2', y3', yl⟩ := id Y
      obtain ⟨u0, u1, u2, u3, ul⟩ := id U
      go_wp2_with fail
      clear y0 y1 y2' y3' yl u0 u1 u2 u3 ul
      refine (valid_any _ _ _).mono ?_
      rintro e w6 ⟨rfl, hb⟩
      replace B := thn B hb
      clear hb
      rw [HQ.out]
      go_wp2
      go_ret
      exact ⟨rfl, B⟩
    · rw [hf]
      replace B := alc B (.cells #[.int .i64 g0, .int .i64 g1] 25)
      replace U := U.alc (.cells #[.int .i64 g0, .int .i64 g1] 25)
      have Y := c2_new w4 (.int .i64 g0) (.int .i64 g1) 25
      have HY := Lib.hid hq
      clear hq
      have HQ := Lib.hid hv
      clear hv
      clear hf HT
      obtain ⟨y0, y1, y2', y3', yl⟩ := id Y
      obtain ⟨u0, u1, u2, u3, ul⟩ := id U
      go_wp2_with fail
      clear y0 y1 y2' y3' yl u0 u1 u2 u3 ul
      generalize w4.alloc (.cells #[.int .i64 g0, .int .i64 g1] 25) = v4 at *
      generalize w4.heap.size = by' at *
      refine (pvalid_any _ _ _).mono ?_
      rintro e w5 ⟨rfl, hb⟩
      replace B := thn B hb
      replace U := U.next hb
      replace Y := Y.next hb
      clear hb
      rw [HY.out]
      obtain ⟨y0, y1, y2', y3', yl⟩ := id Y
      obtain ⟨u0, u1, u2, u3, ul⟩ := id U
      go_wp2_with fail
      clear y0 y1 y2' y3' yl u0 u1 u2 u3 ul
      refine (valid_any _ _ _).mono ?_
      rintro e w6 ⟨rfl, hb⟩
      replace B := thn B hb
      clear hb
      rw [HQ.out]
      go_wp2
      go_ret
      exact ⟨rfl, B⟩
end Go.Proofs.Ytmlacekgmdlfjaa
