/- The contracts of packages atmosphere and airspeed, without the searches. -/
import Derived.Test.YtfchbgcgdcoplaaTabB
import Derived.Test.YtfchbgcgdcoplaaAirP
import Derived.Test.YtfchbgcgdcoplaaSqrt
namespace Go.Proofs.Ytfchbgcgdcoplaa
open Go.RowKit Go.Joins Fdk
set_option linter.unusedVariables false
theorem outside_t (x : Int) (w : World) (h : x < -200000 ∨ x > 6000000) :
    Calls Try.prog 12 #[.int .i64 x] w fun e w' => e = .returned (.bool true) ∧ w = w' := by
  by_cases h1 : x < -200000
  · clear h
    go_enter Try.func12, Try.ntmps12
    go_wp2
    go_ret
    exact ⟨rfl, rfl⟩
  · have h2 : x > 6000000 := by omega
    clear h
    go_enter Try.func12, Try.ntmps12
    go_wp2
    go_ret
    exact ⟨rfl, rfl⟩
theorem outside_f (x : Int) (w : World) (h0 : -200000 ≤ x) (h1 : x ≤ 6000000) :
    Calls Try.prog 12 #[.int .i64 x] w fun e w' => e = .returned (.bool false) ∧ w = w' := by
  have h2 : ¬ x < -200000 := by omega
  have h3 : ¬ x > 6000000 := by omega
  clear h0 h1
  go_enter Try.func12, Try.ntmps12
  go_wp2
  go_ret
  exact ⟨rfl, rfl⟩
theorem awithin_t (n m : Int) (w : World) (h0 : 0 ≤ n) (h1 : n ≤ m) :
    Calls Try.prog 15 #[.int .i64 n, .int .i64 m] w fun e w' => e = .returned (.bool true) ∧ w = w' := by
  go_enter Try.func15, Try.ntmps15
  go_wp2
  go_ret
  exact ⟨rfl, rfl⟩
theorem awithin_f (n m : Int) (w : World) (h : n < 0 ∨ n > m) :
    Calls Try.prog 15 #[.int .i64 n, .int .i64 m] w fun e w' => e = .returned (.bool false) ∧ w = w' := by
  by_cases h1 : 0 ≤ n
  · have h2 : ¬ n ≤ m := by omega
    clear h
    go_enter Try.func15, Try.ntmps15
    go_wp2
    go_ret
    exact ⟨rfl, rfl⟩
  · clear h
    go_enter Try.func15, Try.ntmps15
    go_wp2
    go_ret
    exact ⟨rfl, rfl⟩
theorem acheck_ok (x d : Int) (w : World) (h0 : -200000 ≤ x) (h1 : x ≤ 6000000) (d0 : -4000 ≤ d) (d1 : d ≤ 4000) :
    Calls Try.prog 23 #[.int .i64 x, .int .i64 d] w fun e w' => e = .returned (.int .i64 0) ∧ w = w' := by
  have HO := Lib.hid (fun w => outside_f x w h0 h1)
  have d2 : ¬ d < -4000 := by omega
  have d3 : ¬ d > 4000 := by omega
  clear d0 d1
  go_enter Try.func23, Try.ntmps23
  go_wp2_with fail
  refine (HO.out _).mono ?_
  rintro e w' ⟨rfl, rfl⟩
  go_wp2_with fail
  go_ret
  exact ⟨rfl, rfl⟩
theorem acheck_no (x d : Int) (w : World) (h : (x < -200000 ∨ x > 6000000) ∨ (d < -4000 ∨ d > 4000)) :
    Calls Try.prog 23 #[.int .i64 x, .int .i64 d] w fun e w' => (∃ E, E ≠ 0 ∧ e = .returned (.int .i64 E)) ∧ w = w' := by
  by_cases hx : x < -200000 ∨ x > 6000000
  · have HO := Lib.hid (fun w => outside_t x w hx)
    clear h hx
    go_enter Try.func23, Try.ntmps23
    go_wp2_with fail
    refine (HO.out _).mono ?_
    rintro e w' ⟨rfl, rfl⟩
    go_wp2_with fail
    go_ret
    exact ⟨⟨2, by decide, rfl⟩, rfl⟩
  · have HO := Lib.hid (fun w => outside_f x w (by omega) (by omega))
    have hd : d < -4000 ∨ d > 4000 := by omega
    clear h hx
    by_cases h1 : d < -4000
    · clear hd
      go_enter Try.func23, Try.ntmps23
      go_wp2_with fail
      refine (HO.out _).mono ?_
      rintro e w' ⟨rfl, rfl⟩
      go_wp2_with fail
      go_ret
      exact ⟨⟨1, by decide, rfl⟩, rfl⟩
    · have h2 : d > 4000 := by omega
      clear hd
      go_enter Try.func23, Try.ntmps23
      go_wp2_with fail
      refine (HO.out _).mono ?_
      rintro e w' ⟨rfl, rfl⟩
      go_wp2_with fail
      go_ret
      exact ⟨⟨1, by decide, rfl⟩, rfl⟩
theorem prs_a : ∀ i, i < 14 → -100000 ≤ la prs i ∧ la prs i ≤ 100000 := by decide
theorem prs_c : ∀ i, i < 14 → -10000000 ≤ lb prs i ∧ lb prs i ≤ 10000000 := by decide
theorem rts_a : ∀ i, i < 14 → -100000 ≤ la rts i ∧ la rts i ≤ 100000 := by decide
theorem rts_c : ∀ i, i < 14 → -10000000 ≤ lb rts i ∧ lb rts i ≤ 10000000 := by decide
theorem tmps_a : ∀ i, i < 4 → -100000 ≤ la tmps i ∧ la tmps i ≤ 100000 := by decide
theorem tmps_c : ∀ i, i < 4 → -10000000 ≤ lb tmps i ∧ lb tmps i ≤ 10000000 := by decide
theorem pressure_ok (x : Int) (w : World) (h0 : -200000 ≤ x) (h1 : x ≤ 6000000) :
    Calls Try.prog 4 #[.int .i64 x] w fun e w' => e = TwoI (pre x) 0 ∧ Below w.heap.size w w' := by
  have HO := Lib.hid (fun w => outside_f x w h0 h1)
  have HV := Lib.hid (fun b w h => value_any b 14 (la prs) (lb prs) x w prs_tab (by omega) h prs_a prs_c (by omega) (by omega) (by have := pre_b h0 h1; unfold pre at this; omega))
  go_enter Try.func4, Try.ntmps4
  go_wp2_with fail
  refine (HO.out _).mono ?_
  rintro e w' ⟨rfl, rfl⟩
  go_wp2_with fail
  refine (prs_any _).mono ?_
  rintro e w1 ⟨⟨b, _, rfl, hT⟩, hb⟩
  have HB := Lib.hid hb
  have HV2 := Lib.hid (HV.out b w1 hT)
  clear hT hb HV HO
  go_wp2_with fail
  refine HV2.out.mono ?_
  rintro e w2 ⟨rfl, hb⟩
  have HB2 := Lib.hid (thn HB.out hb)
  clear hb HB HV2
  go_wp2_with fail
  go_ret2
  exact ⟨rfl, HB2.out⟩
theorem ratio_ok (x d : Int) (w : World) (h0 : -200000 ≤ x) (h1 : x ≤ 6000000) (d0 : -4000 ≤ d) (d1 : d ≤ 4000) :
    Calls Try.prog 16 #[.int .i64 x, .int .i64 d] w fun e w' => e = TwoI (rat x d) 0 ∧ Below w.heap.size w w' := by
  have HC := Lib.hid (fun w => acheck_ok x d w h0 h1 d0 d1)
  have HV := Lib.hid (fun b w h => value_any b 14 (la rts) (lb rts) x w rts_tab (by omega) h rts_a rts_c (by omega) (by omega) (by have := rts_b h0 h1; omega))
  have e1 : IntKind.i64.wrap (57630 + d) = 57630 + d := IntWalk.i64_in _ (by omega)
  have hm := rat_m h0 h1 d0 d1
  have e2 : IntKind.i64.wrap (tv (la rts) (lb rts) 14 x * (57630 + d)) = tv (la rts) (lb rts) 14 x * (57630 + d) := IntWalk.i64_in _ (by omega)
  have hr := rat_b h0 h1 d0 d1
  have e3 : (tv (la rts) (lb rts) 14 x * (57630 + d)).tdiv 57630 = rat x d := Int.tdiv_eq_ediv_of_nonneg hm.1
  have e4 : IntKind.i64.wrap (rat x d) = rat x d := IntWalk.i64_in _ (by omega)
  clear hm hr
  go_enter Try.func16, Try.ntmps16
  go_wp2_with fail
  refine (HC.out _).mono ?_
  rintro e w' ⟨rfl, rfl⟩
  go_wp2_with fail
  refine (rts_any _).mono ?_
  rintro e w1 ⟨⟨b, _, rfl, hT⟩, hb⟩
  have HB := Lib.hid hb
  have HV2 := Lib.hid (HV.out b w1 hT)
  clear hT hb HV HC
  go_wp2_with fail
  refine HV2.out.mono ?_
  rintro e w2 ⟨rfl, hb⟩
  have HB2 := Lib.hid (thn HB.out hb)
  clear hb HB HV2
  go_wp2_with fail
  go_ret2
  exact ⟨rfl, HB2.out⟩
theorem ratio_no (x d : Int) (w : World) (h : (x < -200000 ∨ x > 6000000) ∨ (d < -4000 ∨ d > 4000)) :
    Calls Try.prog 16 #[.int .i64 x, .int .i64 d] w fun e w' => (∃ E, E ≠ 0 ∧ e = TwoI 0 E) ∧ Below w.heap.size w w' := by
  have HC := Lib.hid (fun w => acheck_no x d w h)
  clear h
  go_enter Try.func16, Try.ntmps16
  go_wp2_with fail
  refine (HC.out _).mono ?_
  rintro e w' ⟨⟨E, hE, rfl⟩, rfl⟩
  have hE2 : (E != 0) = true := by simp [hE]
  go_wp2_with fail
  go_ret2
  exact ⟨⟨E, hE, rfl⟩, Below.refl _ _⟩
theorem temp_ok (x d : Int) (w : World) (h0 : -200000 ≤ x) (h1 : x ≤ 6000000) (d0 : -4000 ≤ d) (d1 : d ≤ 4000) :
    Calls Try.prog 25 #[.int .i64 x, .int .i64 d] w fun e w' => e = TwoI (tem x d) 0 ∧ Below w.heap.size w w' := by
  have HC := Lib.hid (fun w => acheck_ok x d w h0 h1 d0 d1)
  have HV := Lib.hid (fun b w h => value_any b 4 (la tmps) (lb tmps) x w tmps_tab (by omega) h tmps_a tmps_c (by omega) (by omega) (by have := tmps_b h0 h1; omega))
  have ht := tem_b h0 h1 d0 d1
  have e1 : IntKind.i64.wrap (tv (la tmps) (lb tmps) 4 x + d) = tem x d := IntWalk.i64_in _ (by unfold tem at ht; omega)
  clear ht
  go_enter Try.func25, Try.ntmps25
  go_wp2_with fail
  refine (HC.out _).mono ?_
  rintro e w' ⟨rfl, rfl⟩
  go_wp2_with fail
  refine (tmps_any _).mono ?_
  rintro e w1 ⟨⟨b, _, rfl, hT⟩, hb⟩
  have HB := Lib.hid hb
  have HV2 := Lib.hid (HV.out b w1 hT)
  clear hT hb HV HC
  go_wp2_with fail
  refine HV2.out.mono ?_
  rintro e w2 ⟨rfl, hb⟩
  have HB2 := Lib.hid (thn HB.out hb)
  clear hb HB HV2
  go_wp2_with fail
  go_ret2
  exact ⟨rfl, HB2.out⟩
theorem temp_no (x d : Int) (w : World) (h : (x < -200000 ∨ x > 6000000) ∨ (d < -4000 ∨ d > 4000)) :
    Calls Try.prog 25 #[.int .i64 x, .int .i64 d] w fun e w' => (∃ E, E ≠ 0 ∧ e = TwoI 0 E) ∧ Below w.heap.size w w' := by
  have HC := Lib.hid (fun w => acheck_no x d w h)
  clear h
  go_enter Try.func25, Try.ntmps25
  go_wp2_with fail
  refine (HC.out _).mono ?_
  rintro e w' ⟨⟨E, hE, rfl⟩, rfl⟩
  have hE2 : (E != 0) = true := by simp [hE]
  go_wp2_with fail
  go_ret2
  exact ⟨⟨E, hE, rfl⟩, Below.refl _ _⟩
theorem sound_ok (x d : Int) (w : World) (h0 : -200000 ≤ x) (h1 : x ≤ 6000000) (d0 : -4000 ≤ d) (d1 : d ≤ 4000) :
    Calls Try.prog 17 #[.int .i64 x, .int .i64 d] w fun e w' => e = TwoI (sndv x d) 0 ∧ Below w.heap.size w w' := by
  have HT := Lib.hid (fun w => temp_ok x d w h0 h1 d0 d1)
  have ht := tem_b h0 h1 d0 d1
  have HS : Hid (∀ w, Calls Try.prog 26 #[.int .i64 (388734 * tem x d / 100)] w fun e w' => e = .returned (.int .i64 (sndv x d)) ∧ w = w') := Lib.hid (fun w => sqrt_any (388734 * tem x d / 100) w (by omega) (by omega))
  generalize sndv x d = S at *
  generalize tem x d = T at *
  have e1 : IntKind.i64.wrap (388734 * T) = 388734 * T := IntWalk.i64_in _ (by omega)
  have e2 : (388734 * T).tdiv 100 = 388734 * T / 100 := Int.tdiv_eq_ediv_of_nonneg (by omega)
  have e3 : IntKind.i64.wrap (388734 * T / 100) = 388734 * T / 100 := IntWalk.i64_in _ (by omega)
  clear h0 h1 d0 d1 ht
  go_enter Try.func17, Try.ntmps17
  go_wp2_with fail
  refine (HT.out _).mono ?_
  rintro e w1 ⟨rfl, hb⟩
  have HB := Lib.hid hb
  clear hb HT
  go_wp2_with fail
  refine (HS.out _).mono ?_
  rintro e w' ⟨rfl, rfl⟩
  go_wp2_with fail
  go_ret2
  exact ⟨rfl, HB.out⟩
theorem sound_no (x d : Int) (w : World) (h : (x < -200000 ∨ x > 6000000) ∨ (d < -4000 ∨ d > 4000)) :
    Calls Try.prog 17 #[.int .i64 x, .int .i64 d] w fun e w' => (∃ E, E ≠ 0 ∧ e = TwoI 0 E) ∧ Below w.heap.size w w' := by
  have HT := Lib.hid (fun w => temp_no x d w h)
  clear h
  go_enter Try.func17, Try.ntmps17
  go_wp2_with fail
  refine (HT.out _).mono ?_
  rintro e w1 ⟨⟨E, hE, rfl⟩, hb⟩
  have hE2 : (E != 0) = true := by simp [hE]
  have HB := Lib.hid hb
  clear hb HT
  go_wp2_with fail
  go_ret2
  exact ⟨⟨E, hE, rfl⟩, HB.out⟩
theorem tas_ok (c x d : Int) (w : World) (c0 : 0 ≤ c) (c1 : c ≤ 1000) (h0 : -200000 ≤ x) (h1 : x ≤ 6000000) (d0 : -4000 ≤ d) (d1 : d ≤ 4000) :
    Calls Try.prog 5 #[.int .i64 c, .int .i64 x, .int .i64 d] w fun e w' => e = TwoI (tasv c x d) 0 ∧ Below w.heap.size w w' := by
  have HW := Lib.hid (fun w => awithin_t c 1000 w c0 c1)
  have HR := Lib.hid (fun w => ratio_ok x d w h0 h1 d0 d1)
  have hm := tas_m c0 c1 h0 h1 d0 d1
  have hr := tas_b c0 c1 h0 h1 d0 d1
  have e1 : IntKind.i64.wrap (c * rat x d) = c * rat x d := IntWalk.i64_in _ (by omega)
  have e2 : (c * rat x d).tdiv 1000000 = tasv c x d := Int.tdiv_eq_ediv_of_nonneg hm.1
  have e3 : IntKind.i64.wrap (tasv c x d) = tasv c x d := IntWalk.i64_in _ (by omega)
  clear hm hr c0 c1 h0 h1 d0 d1
  go_enter Try.func5, Try.ntmps5
  go_wp2_with fail
  refine (HW.out _).mono ?_
  rintro e w' ⟨rfl, rfl⟩
  go_wp2_with fail
  refine (HR.out _).mono ?_
  rintro e w1 ⟨rfl, hb⟩
  have HB := Lib.hid hb
  clear hb HR HW
  go_wp2_with fail
  go_ret2
  exact ⟨rfl, HB.out⟩
theorem tas_no (c x d : Int) (w : World) (h : (c < 0 ∨ c > 1000) ∨ (x < -200000 ∨ x > 6000000) ∨ (d < -4000 ∨ d > 4000)) :
    Calls Try.prog 5 #[.int .i64 c, .int .i64 x, .int .i64 d] w fun e w' => (∃ E, E ≠ 0 ∧ e = TwoI 0 E) ∧ Below w.heap.size w w' := by
  by_cases hc : c < 0 ∨ c > 1000
  · have HW := Lib.hid (fun w => awithin_f c 1000 w hc)
    clear h hc
    go_enter Try.func5, Try.ntmps5
    go_wp2_with fail
    refine (HW.out _).mono ?_
    rintro e w' ⟨rfl, rfl⟩
    go_wp2_with fail
    go_ret2
    exact ⟨⟨1, by decide, rfl⟩, Below.refl _ _⟩
  · have HW := Lib.hid (fun w => awithin_t c 1000 w (by omega) (by omega))
    have HR := Lib.hid (fun w => ratio_no x d w (by omega))
    clear h hc
    go_enter Try.func5, Try.ntmps5
    go_wp2_with fail
    refine (HW.out _).mono ?_
    rintro e w' ⟨rfl, rfl⟩
    go_wp2_with fail
    refine (HR.out _).mono ?_
    rintro e w1 ⟨⟨E, hE, rfl⟩, hb⟩
    have hE2 : (E != 0) = true := by simp [hE]
    have HB := Lib.hid hb
    clear hb HR HW
    go_wp2_with fail
    go_ret2
    exact ⟨⟨E, hE, rfl⟩, HB.out⟩
theorem mach_ok (c x d : Int) (w : World) (c0 : 0 ≤ c) (c1 : c ≤ 4000) (h0 : -200000 ≤ x) (h1 : x ≤ 6000000) (d0 : -4000 ≤ d) (d1 : d ≤ 4000) :
    Calls Try.prog 6 #[.int .i64 c, .int .i64 x, .int .i64 d] w fun e w' => e = TwoI (machv c x d) 0 ∧ Below w.heap.size w w' := by
  have HW := Lib.hid (fun w => awithin_t c 4000 w c0 c1)
  have HR := Lib.hid (fun w => sound_ok x d w h0 h1 d0 d1)
  have hs := sndv_b h0 h1 d0 d1
  have hr := mach_b c0 c1 h0 h1 d0 d1
  have e1 : IntKind.i64.wrap (16000 * c) = 16000 * c := IntWalk.i64_in _ (by omega)
  have e2 : (16000 * c).tdiv (sndv x d) = machv c x d := Int.tdiv_eq_ediv_of_nonneg (by omega)
  have e3 : IntKind.i64.wrap (machv c x d) = machv c x d := IntWalk.i64_in _ (by omega)
  have e4 : ¬ sndv x d = 0 := by omega
  clear hs hr c0 c1 h0 h1 d0 d1
  go_enter Try.func6, Try.ntmps6
  go_wp2_with fail
  refine (HW.out _).mono ?_
  rintro e w' ⟨rfl, rfl⟩
  go_wp2_with fail
  refine (HR.out _).mono ?_
  rintro e w1 ⟨rfl, hb⟩
  have HB := Lib.hid hb
  clear hb HR HW
  go_wp2_with fail
  go_ret2
  exact ⟨rfl, HB.out⟩
theorem mach_no (c x d : Int) (w : World) (h : (c < 0 ∨ c > 4000) ∨ (x < -200000 ∨ x > 6000000) ∨ (d < -4000 ∨ d > 4000)) :
    Calls Try.prog 6 #[.int .i64 c, .int .i64 x, .int .i64 d] w fun e w' => (∃ E, E ≠ 0 ∧ e = TwoI 0 E) ∧ Below w.heap.size w w' := by
  by_cases hc : c < 0 ∨ c > 4000
  · have HW := Lib.hid (fun w => awithin_f c 4000 w hc)
    clear h hc
    go_enter Try.func6, Try.ntmps6
    go_wp2_with fail
    refine (HW.out _).mono ?_
    rintro e w' ⟨rfl, rfl⟩
    go_wp2_with fail
    go_ret2
    exact ⟨⟨1, by decide, rfl⟩, Below.refl _ _⟩
  · have HW := Lib.hid (fun w => awithin_t c 4000 w (by omega) (by omega))
    have HR := Lib.hid (fun w => sound_no x d w (by omega))
    clear h hc
    go_enter Try.func6, Try.ntmps6
    go_wp2_with fail
    refine (HW.out _).mono ?_
    rintro e w' ⟨rfl, rfl⟩
    go_wp2_with fail
    refine (HR.out _).mono ?_
    rintro e w1 ⟨⟨E, hE, rfl⟩, hb⟩
    have hE2 : (E != 0) = true := by simp [hE]
    have HB := Lib.hid hb
    clear hb HR HW
    go_wp2_with fail
    go_ret2
    exact ⟨⟨E, hE, rfl⟩, HB.out⟩
theorem cas_ok (c x d : Int) (w : World) (c0 : 0 ≤ c) (c1 : c ≤ 4000) (h0 : -200000 ≤ x) (h1 : x ≤ 6000000) (d0 : -4000 ≤ d) (d1 : d ≤ 4000) (hq : casv c x d ≤ 1000) :
    Calls Try.prog 7 #[.int .i64 c, .int .i64 x, .int .i64 d] w fun e w' => e = TwoI (casv c x d) 0 ∧ Below w.heap.size w w' := by
  have HW := Lib.hid (fun w => awithin_t c 4000 w c0 c1)
  have HR := Lib.hid (fun w => ratio_ok x d w h0 h1 d0 d1)
  have hr := rat_b h0 h1 d0 d1
  have e1 : IntKind.i64.wrap (c * 1000000) = c * 1000000 := IntWalk.i64_in _ (by omega)
  have HC := Lib.hid (fun w => ceil_any (c * 1000000) (rat x d) w (by omega) (by omega) (by omega) (by omega))
  have hq2 : ¬ qup (c * 1000000) (rat x d) > 1000 := by unfold casv at hq; omega
  clear hr c0 c1 h0 h1 d0 d1 hq
  go_enter Try.func7, Try.ntmps7
  go_wp2_with fail
  refine (HW.out _).mono ?_
  rintro e w' ⟨rfl, rfl⟩
  go_wp2_with fail
  refine (HR.out _).mono ?_
  rintro e w1 ⟨rfl, hb⟩
  have HB := Lib.hid hb
  clear hb HR HW
  go_wp2_with fail
  refine (HC.out _).mono ?_
  rintro e w2 ⟨rfl, hd⟩
  replace HB := Lib.hid (thn HB.out (hd.below _))
  clear hd
  go_wp2_with fail
  go_ret2
  exact ⟨rfl, HB.out⟩
theorem cas_no (c x d : Int) (w : World) (h : (c < 0 ∨ c > 4000) ∨ (x < -200000 ∨ x > 6000000) ∨ (d < -4000 ∨ d > 4000)) :
    Calls Try.prog 7 #[.int .i64 c, .int .i64 x, .int .i64 d] w fun e w' => (∃ E, E ≠ 0 ∧ e = TwoI 0 E) ∧ Below w.heap.size w w' := by
  by_cases hc : c < 0 ∨ c > 4000
  · have HW := Lib.hid (fun w => awithin_f c 4000 w hc)
    clear h hc
    go_enter Try.func7, Try.ntmps7
    go_wp2_with fail
    refine (HW.out _).mono ?_
    rintro e w' ⟨rfl, rfl⟩
    go_wp2_with fail
    go_ret2
    exact ⟨⟨1, by decide, rfl⟩, Below.refl _ _⟩
  · have HW := Lib.hid (fun w => awithin_t c 4000 w (by omega) (by omega))
    have HR := Lib.hid (fun w => ratio_no x d w (by omega))
    clear h hc
    go_enter Try.func7, Try.ntmps7
    go_wp2_with fail
    refine (HW.out _).mono ?_
    rintro e w' ⟨rfl, rfl⟩
    go_wp2_with fail
    refine (HR.out _).mono ?_
    rintro e w1 ⟨⟨E, hE, rfl⟩, hb⟩
    have hE2 : (E != 0) = true := by simp [hE]
    have HB := Lib.hid hb
    clear hb HR HW
    go_wp2_with fail
    go_ret2
    exact ⟨⟨E, hE, rfl⟩, HB.out⟩
theorem ofm_ok (c x d : Int) (w : World) (c0 : 0 ≤ c) (c1 : c ≤ 2000) (h0 : -200000 ≤ x) (h1 : x ≤ 6000000) (d0 : -4000 ≤ d) (d1 : d ≤ 4000) :
    Calls Try.prog 9 #[.int .i64 c, .int .i64 x, .int .i64 d] w fun e w' => e = TwoI (ofmv c x d) 0 ∧ Below w.heap.size w w' := by
  have HW := Lib.hid (fun w => awithin_t c 2000 w c0 c1)
  have HR := Lib.hid (fun w => sound_ok x d w h0 h1 d0 d1)
  have hs := sndv_b h0 h1 d0 d1
  have hm := mul_b c0 c1 hs.1 hs.2 (by omega) (by omega)
  have e1 : IntKind.i64.wrap (c * sndv x d) = c * sndv x d := IntWalk.i64_in _ (by omega)
  have HC := Lib.hid (fun w => ceil_any (c * sndv x d) 16000 w (by omega) (by omega) (by omega) (by omega))
  clear hs hm c0 c1 h0 h1 d0 d1
  go_enter Try.func9, Try.ntmps9
  go_wp2_with fail
  refine (HW.out _).mono ?_
  rintro e w' ⟨rfl, rfl⟩
  go_wp2_with fail
  refine (HR.out _).mono ?_
  rintro e w1 ⟨rfl, hb⟩
  have HB := Lib.hid hb
  clear hb HR HW
  go_wp2_with fail
  refine (HC.out _).mono ?_
  rintro e w2 ⟨rfl, hd⟩
  replace HB := Lib.hid (thn HB.out (hd.below _))
  clear hd
  go_wp2_with fail
  go_ret2
  exact ⟨rfl, HB.out⟩
theorem ofm_no (c x d : Int) (w : World) (h : (c < 0 ∨ c > 2000) ∨ (x < -200000 ∨ x > 6000000) ∨ (d < -4000 ∨ d > 4000)) :
    Calls Try.prog 9 #[.int .i64 c, .int .i64 x, .int .i64 d] w fun e w' => (∃ E, E ≠ 0 ∧ e = TwoI 0 E) ∧ Below w.heap.size w w' := by
  by_cases hc : c < 0 ∨ c > 2000
  · have HW := Lib.hid (fun w => awithin_f c 2000 w hc)
    clear h hc
    go_enter Try.func9, Try.ntmps9
    go_wp2_with fail
    refine (HW.out _).mono ?_
    rintro e w' ⟨rfl, rfl⟩
    go_wp2_with fail
    go_ret2
    exact ⟨⟨1, by decide, rfl⟩, Below.refl _ _⟩
  · have HW := Lib.hid (fun w => awithin_t c 2000 w (by omega) (by omega))
    have HR := Lib.hid (fun w => sound_no x d w (by omega))
    clear h hc
    go_enter Try.func9, Try.ntmps9
    go_wp2_with fail
    refine (HW.out _).mono ?_
    rintro e w' ⟨rfl, rfl⟩
    go_wp2_with fail
    refine (HR.out _).mono ?_
    rintro e w1 ⟨⟨E, hE, rfl⟩, hb⟩
    have hE2 : (E != 0) = true := by simp [hE]
    have HB := Lib.hid hb
    clear hb HR HW
    go_wp2_with fail
    go_ret2
    exact ⟨⟨E, hE, rfl⟩, HB.out⟩
end Go.Proofs.Ytfchbgcgdcoplaa
