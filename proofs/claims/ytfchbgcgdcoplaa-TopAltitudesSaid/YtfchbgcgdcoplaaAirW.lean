/- TopAltitudes: the walk. -/
import Derived.Test.YtfchbgcgdcoplaaAirT
namespace Go.Proofs.Ytfchbgcgdcoplaa
open Go.RowKit Go.Joins Fdk
set_option linter.unusedVariables false
theorem ex_pre : pre 250000 = 916000 := by decide +kernel
theorem ex_tas : tasv 250 1000000 0 = 290 := by decide +kernel
set_option maxRecDepth 8000 in
set_option maxHeartbeats 8000000 in
theorem alt_bad (c x d hi : Int) (w : World) (h : (c < 0 ∨ c > 1000) ∨ (x < -200000 ∨ x > 6000000) ∨ (d < -4000 ∨ d > 4000)) :
    Calls Try.prog 3 #[.int .i64 c, .agg #[.int .i64 x, .int .i64 d], .int .i64 hi] w fun e w' => e = .returned (.bool true) ∧ Below w.heap.size w w' := by
  have HP := Lib.hid (fun w => pressure_ok 250000 w (by omega) (by omega))
  rw [ex_pre] at HP
  have HT := Lib.hid (fun w => tas_ok 250 1000000 0 w (by omega) (by omega) (by omega) (by omega) (by omega) (by omega))
  rw [ex_tas] at HT
  have HN := Lib.hid (fun w => tas_no c x d w h)
  clear h
  go_enter Try.func3, Try.ntmps3
  go_wp2_with fail
  have X := c2_new w (.int .i64 x) (.int .i64 d) 23
  have HB := Lib.hid (below_alloc1 w (.cells #[.int .i64 x, .int .i64 d] 23))
  generalize w.alloc (.cells #[.int .i64 x, .int .i64 d] 23) = v0 at *
  obtain ⟨x0, x1, x2, x3, xl⟩ := id X
  refine (HP.out _).mono ?_
  rintro e w1 ⟨rfl, hb⟩
  replace X := X.next hb
  replace HB := Lib.hid (thn HB.out hb)
  clear hb x0 x1 x2 x3 xl
  obtain ⟨x0, x1, x2, x3, xl⟩ := id X
  go_wp2_with fail
  refine (HT.out _).mono ?_
  rintro e w2 ⟨rfl, hb⟩
  replace X := X.next hb
  replace HB := Lib.hid (thn HB.out hb)
  clear hb x0 x1 x2 x3 xl
  obtain ⟨x0, x1, x2, x3, xl⟩ := id X
  go_wp2_with fail
  refine (HN.out _).mono ?_
  rintro e w3 ⟨⟨E, hE, rfl⟩, hb⟩
  replace X := X.next hb
  replace HB := Lib.hid (thn HB.out hb)
  clear hb x0 x1 x2 x3 xl
  have hE2 : (E != 0) = true := by simp [hE]
  clear hE
  obtain ⟨x0, x1, x2, x3, xl⟩ := id X
  go_wp2_with fail
  go_ret
  exact ⟨rfl, HB.out⟩
set_option maxRecDepth 8000 in
set_option maxHeartbeats 8000000 in
theorem alt_ll (c x d hi : Int) (w : World) (c0 : 0 ≤ c) (c1 : c ≤ 1000) (h0 : -200000 ≤ x) (h1 : x ≤ 6000000) (d0 : -4000 ≤ d) (d1 : d ≤ 4000) (hm : machv (tasv c x d) x d ≤ 2000) (hh : hi < x) :
    Calls Try.prog 3 #[.int .i64 c, .agg #[.int .i64 x, .int .i64 d], .int .i64 hi] w fun e w' => e = .returned (.bool true) ∧ Below w.heap.size w w' := by
  have HP := Lib.hid (fun w => pressure_ok 250000 w (by omega) (by omega))
  rw [ex_pre] at HP
  have HT := Lib.hid (fun w => tas_ok 250 1000000 0 w (by omega) (by omega) (by omega) (by omega) (by omega) (by omega))
  rw [ex_tas] at HT
  obtain ⟨t0, t1⟩ := tas_b c0 c1 h0 h1 d0 d1
  obtain ⟨k0, k1, k2⟩ := cas_back c0 c1 h0 h1 d0 d1
  have H1 := Lib.hid (fun w => tas_ok c x d w c0 c1 h0 h1 d0 d1)
  have H2 := Lib.hid (fun w => mach_ok (tasv c x d) x d w t0 (by omega) h0 h1 d0 d1)
  have H3 := Lib.hid (fun w => cas_ok (tasv c x d) x d w t0 (by omega) h0 h1 d0 d1 (by omega))
  have H4 := Lib.hid (fun w => tas_ok (casv (tasv c x d) x d) x d w k0 (by omega) h0 h1 d0 d1)
  rw [k2] at H4
  have H5 := Lib.hid (fun w => pressure_ok x w h0 h1)
  obtain ⟨p0, p1⟩ := pre_b h0 h1
  have H6 := Lib.hid (fun w => level_any (pre x) w p0 p1)
  have H7 : Hid (∀ h, -200000 ≤ h → h ≤ 6000000 → pre h ≤ pre x → h ≤ x → ∀ w, Calls Try.prog 4 #[.int .i64 h] w fun e w' => e = TwoI (pre x) 0 ∧ Below w.heap.size w w') := Lib.hid (fun h r0 r1 r2 r3 w => by
    have e : pre h = pre x := by have := pre_down r3; omega
    rw [← e]; exact pressure_ok h w r0 r1)
  have g1 : ¬ casv (tasv c x d) x d > c := by omega
  have HX := Lib.hid (And.intro h0 h1)
  obtain ⟨m0, m1⟩ := mach_b (x := x) (d := d) t0 (by omega) h0 h1 d0 d1
  have o1 := ofm_le t0 h0 h1 d0 d1
  have H8 := Lib.hid (fun w => ofm_ok (machv (tasv c x d) x d) x d w m0 hm h0 h1 d0 d1)
  have H9 := Lib.hid (fun w => crossover_any c (machv (tasv c x d) x d) d x w c0 c1 m0 hm d0 d1 h0 h1 (Int.le_refl _))
  have H10 := Lib.hid (fun w => schedule_any c (machv (tasv c x d) x d) x d w c0 c1 m0 hm h0 h1 d0 d1 o1)
  have g2 : ¬ ofmv (machv (tasv c x d) x d) x d > tasv c x d := by omega
  clear m0 m1 o1
  clear t0 t1 k0 k1 k2 p0 p1 c0 c1 h0 h1 d0 d1
  generalize ofmv (machv (tasv c x d) x d) x d = o at *
  generalize casv (tasv c x d) x d = cc at *
  generalize machv (tasv c x d) x d = m at *
  generalize tasv c x d = t at *
  obtain ⟨p, hp⟩ : ∃ p, p = pre x := ⟨_, rfl⟩
  rw [← hp] at H5 H6 H7
  have HPQ : Hid (pre x ≤ p) := Lib.hid (by omega)
  clear hp
  go_enter Try.func3, Try.ntmps3
  go_wp2_with fail
  have X := c2_new w (.int .i64 x) (.int .i64 d) 23
  have HB := Lib.hid (below_alloc1 w (.cells #[.int .i64 x, .int .i64 d] 23))
  generalize w.alloc (.cells #[.int .i64 x, .int .i64 d] 23) = v0 at *
  obtain ⟨x0, x1, x2, x3, xl⟩ := id X
  refine (HP.out _).mono ?_
  rintro e w4 ⟨rfl, hb⟩
  replace X := X.next hb
  replace HB := Lib.hid (thn HB.out hb)
  clear hb x0 x1 x2 x3 xl
  obtain ⟨x0, x1, x2, x3, xl⟩ := id X
  go_wp2_with fail
  refine (HT.out _).mono ?_
  rintro e w5 ⟨rfl, hb⟩
  replace X := X.next hb
  replace HB := Lib.hid (thn HB.out hb)
  clear hb x0 x1 x2 x3 xl
  obtain ⟨x0, x1, x2, x3, xl⟩ := id X
  go_wp2_with fail
  refine (H1.out _).mono ?_
  rintro e w6 ⟨rfl, hb⟩
  replace X := X.next hb
  replace HB := Lib.hid (thn HB.out hb)
  clear hb x0 x1 x2 x3 xl
  obtain ⟨x0, x1, x2, x3, xl⟩ := id X
  go_wp2_with fail
  refine (H2.out _).mono ?_
  rintro e w7 ⟨rfl, hb⟩
  replace X := X.next hb
  replace HB := Lib.hid (thn HB.out hb)
  clear hb x0 x1 x2 x3 xl
  obtain ⟨x0, x1, x2, x3, xl⟩ := id X
  go_wp2_with fail
  refine (H3.out _).mono ?_
  rintro e w8 ⟨rfl, hb⟩
  replace X := X.next hb
  replace HB := Lib.hid (thn HB.out hb)
  clear hb x0 x1 x2 x3 xl
  obtain ⟨x0, x1, x2, x3, xl⟩ := id X
  go_wp2_with fail
  refine (H4.out _).mono ?_
  rintro e w9 ⟨rfl, hb⟩
  replace X := X.next hb
  replace HB := Lib.hid (thn HB.out hb)
  clear hb x0 x1 x2 x3 xl
  obtain ⟨x0, x1, x2, x3, xl⟩ := id X
  go_wp2_with fail
  refine (H5.out _).mono ?_
  rintro e w10 ⟨rfl, hb⟩
  replace X := X.next hb
  replace HB := Lib.hid (thn HB.out hb)
  clear hb x0 x1 x2 x3 xl
  obtain ⟨x0, x1, x2, x3, xl⟩ := id X
  go_wp2_with fail
  refine (H6.out _).mono ?_
  rintro e w11 ⟨⟨h, rfl, ⟨r0, r1⟩, r2, r3⟩, hb⟩
  replace X := X.next hb
  replace HB := Lib.hid (thn HB.out hb)
  clear hb x0 x1 x2 x3 xl
  have HPX := HPQ.out
  have r4 : Hid (h ≤ x) := Lib.hid (r3 x HX.out.1 HX.out.2 HPX)
  have g5 : ¬ h > x := by have := r4.out; omega
  have H7h := Lib.hid (H7.out h r0 r1 r2 r4.out)
  clear HPX r0 r1 r2 r3
  obtain ⟨x0, x1, x2, x3, xl⟩ := id X
  go_wp2_with fail
  refine (H7h.out _).mono ?_
  rintro e w12 ⟨rfl, hb⟩
  replace X := X.next hb
  replace HB := Lib.hid (thn HB.out hb)
  clear hb x0 x1 x2 x3 xl
  obtain ⟨x0, x1, x2, x3, xl⟩ := id X
  go_wp2_with fail
  refine (H8.out _).mono ?_
  rintro e w13 ⟨rfl, hb⟩
  replace X := X.next hb
  replace HB := Lib.hid (thn HB.out hb)
  clear hb x0 x1 x2 x3 xl
  obtain ⟨x0, x1, x2, x3, xl⟩ := id X
  go_wp2_with fail
  refine (H9.out _).mono ?_
  rintro e w14 ⟨⟨k, rfl, hk⟩, hb⟩
  replace X := X.next hb
  replace HB := Lib.hid (thn HB.out hb)
  clear hb x0 x1 x2 x3 xl
  have g6 : ¬ k > x := by omega
  clear hk
  obtain ⟨x0, x1, x2, x3, xl⟩ := id X
  go_wp2_with fail
  refine (H10.out _).mono ?_
  rintro e w15 ⟨rfl, hb⟩
  replace X := X.next hb
  replace HB := Lib.hid (thn HB.out hb)
  clear hb x0 x1 x2 x3 xl
  obtain ⟨x0, x1, x2, x3, xl⟩ := id X
  go_wp2_with fail
  go_ret
  exact ⟨rfl, HB.out⟩
set_option maxRecDepth 8000 in
set_option maxHeartbeats 8000000 in
theorem alt_lo (c x d hi : Int) (w : World) (c0 : 0 ≤ c) (c1 : c ≤ 1000) (h0 : -200000 ≤ x) (h1 : x ≤ 6000000) (d0 : -4000 ≤ d) (d1 : d ≤ 4000) (hm : machv (tasv c x d) x d ≤ 2000) (hh : ¬ hi < x) (hh2 : hi > 6000000) :
    Calls Try.prog 3 #[.int .i64 c, .agg #[.int .i64 x, .int .i64 d], .int .i64 hi] w fun e w' => e = .returned (.bool true) ∧ Below w.heap.size w w' := by
  have HP := Lib.hid (fun w => pressure_ok 250000 w (by omega) (by omega))
  rw [ex_pre] at HP
  have HT := Lib.hid (fun w => tas_ok 250 1000000 0 w (by omega) (by omega) (by omega) (by omega) (by omega) (by omega))
  rw [ex_tas] at HT
  obtain ⟨t0, t1⟩ := tas_b c0 c1 h0 h1 d0 d1
  obtain ⟨k0, k1, k2⟩ := cas_back c0 c1 h0 h1 d0 d1
  have H1 := Lib.hid (fun w => tas_ok c x d w c0 c1 h0 h1 d0 d1)
  have H2 := Lib.hid (fun w => mach_ok (tasv c x d) x d w t0 (by omega) h0 h1 d0 d1)
  have H3 := Lib.hid (fun w => cas_ok (tasv c x d) x d w t0 (by omega) h0 h1 d0 d1 (by omega))
  have H4 := Lib.hid (fun w => tas_ok (casv (tasv c x d) x d) x d w k0 (by omega) h0 h1 d0 d1)
  rw [k2] at H4
  have H5 := Lib.hid (fun w => pressure_ok x w h0 h1)
  obtain ⟨p0, p1⟩ := pre_b h0 h1
  have H6 := Lib.hid (fun w => level_any (pre x) w p0 p1)
  have H7 : Hid (∀ h, -200000 ≤ h → h ≤ 6000000 → pre h ≤ pre x → h ≤ x → ∀ w, Calls Try.prog 4 #[.int .i64 h] w fun e w' => e = TwoI (pre x) 0 ∧ Below w.heap.size w w') := Lib.hid (fun h r0 r1 r2 r3 w => by
    have e : pre h = pre x := by have := pre_down r3; omega
    rw [← e]; exact pressure_ok h w r0 r1)
  have g1 : ¬ casv (tasv c x d) x d > c := by omega
  have HX := Lib.hid (And.intro h0 h1)
  obtain ⟨m0, m1⟩ := mach_b (x := x) (d := d) t0 (by omega) h0 h1 d0 d1
  have o1 := ofm_le t0 h0 h1 d0 d1
  have H8 := Lib.hid (fun w => ofm_ok (machv (tasv c x d) x d) x d w m0 hm h0 h1 d0 d1)
  have H9 := Lib.hid (fun w => crossover_any c (machv (tasv c x d) x d) d x w c0 c1 m0 hm d0 d1 h0 h1 (Int.le_refl _))
  have H10 := Lib.hid (fun w => schedule_any c (machv (tasv c x d) x d) x d w c0 c1 m0 hm h0 h1 d0 d1 o1)
  have g2 : ¬ ofmv (machv (tasv c x d) x d) x d > tasv c x d := by omega
  clear m0 m1 o1
  have H11 := Lib.hid (fun w => tas_no c hi d w (by omega))
  have H12 := Lib.hid (fun w => mach_no 0 hi d w (by omega))
  clear t0 t1 k0 k1 k2 p0 p1 c0 c1 h0 h1 d0 d1 hh2
  generalize ofmv (machv (tasv c x d) x d) x d = o at *
  generalize casv (tasv c x d) x d = cc at *
  generalize machv (tasv c x d) x d = m at *
  generalize tasv c x d = t at *
  obtain ⟨p, hp⟩ : ∃ p, p = pre x := ⟨_, rfl⟩
  rw [← hp] at H5 H6 H7
  have HPQ : Hid (pre x ≤ p) := Lib.hid (by omega)
  clear hp
  go_enter Try.func3, Try.ntmps3
  go_wp2_with fail
  have X := c2_new w (.int .i64 x) (.int .i64 d) 23
  have HB := Lib.hid (below_alloc1 w (.cells #[.int .i64 x, .int .i64 d] 23))
  generalize w.alloc (.cells #[.int .i64 x, .int .i64 d] 23) = v0 at *
  obtain ⟨x0, x1, x2, x3, xl⟩ := id X
  refine (HP.out _).mono ?_
  rintro e w16 ⟨rfl, hb⟩
  replace X := X.next hb
  replace HB := Lib.hid (thn HB.out hb)
  clear hb x0 x1 x2 x3 xl
  obtain ⟨x0, x1, x2, x3, xl⟩ := id X
  go_wp2_with fail
  refine (HT.out _).mono ?_
  rintro e w17 ⟨rfl, hb⟩
  replace X := X.next hb
  replace HB := Lib.hid (thn HB.out hb)
  clear hb x0 x1 x2 x3 xl
  obtain ⟨x0, x1, x2, x3, xl⟩ := id X
  go_wp2_with fail
  refine (H1.out _).mono ?_
  rintro e w18 ⟨rfl, hb⟩
  replace X := X.next hb
  replace HB := Lib.hid (thn HB.out hb)
  clear hb x0 x1 x2 x3 xl
  obtain ⟨x0, x1, x2, x3, xl⟩ := id X
  go_wp2_with fail
  refine (H2.out _).mono ?_
  rintro e w19 ⟨rfl, hb⟩
  replace X := X.next hb
  replace HB := Lib.hid (thn HB.out hb)
  clear hb x0 x1 x2 x3 xl
  obtain ⟨x0, x1, x2, x3, xl⟩ := id X
  go_wp2_with fail
  refine (H3.out _).mono ?_
  rintro e w20 ⟨rfl, hb⟩
  replace X := X.next hb
  replace HB := Lib.hid (thn HB.out hb)
  clear hb x0 x1 x2 x3 xl
  obtain ⟨x0, x1, x2, x3, xl⟩ := id X
  go_wp2_with fail
  refine (H4.out _).mono ?_
  rintro e w21 ⟨rfl, hb⟩
  replace X := X.next hb
  replace HB := Lib.hid (thn HB.out hb)
  clear hb x0 x1 x2 x3 xl
  obtain ⟨x0, x1, x2, x3, xl⟩ := id X
  go_wp2_with fail
  refine (H5.out _).mono ?_
  rintro e w22 ⟨rfl, hb⟩
  replace X := X.next hb
  replace HB := Lib.hid (thn HB.out hb)
  clear hb x0 x1 x2 x3 xl
  obtain ⟨x0, x1, x2, x3, xl⟩ := id X
  go_wp2_with fail
  refine (H6.out _).mono ?_
  rintro e w23 ⟨⟨h, rfl, ⟨r0, r1⟩, r2, r3⟩, hb⟩
  replace X := X.next hb
  replace HB := Lib.hid (thn HB.out hb)
  clear hb x0 x1 x2 x3 xl
  have HPX := HPQ.out
  have r4 : Hid (h ≤ x) := Lib.hid (r3 x HX.out.1 HX.out.2 HPX)
  have g5 : ¬ h > x := by have := r4.out; omega
  have H7h := Lib.hid (H7.out h r0 r1 r2 r4.out)
  clear HPX r0 r1 r2 r3
  obtain ⟨x0, x1, x2, x3, xl⟩ := id X
  go_wp2_with fail
  refine (H7h.out _).mono ?_
  rintro e w24 ⟨rfl, hb⟩
  replace X := X.next hb
  replace HB := Lib.hid (thn HB.out hb)
  clear hb x0 x1 x2 x3 xl
  obtain ⟨x0, x1, x2, x3, xl⟩ := id X
  go_wp2_with fail
  refine (H8.out _).mono ?_
  rintro e w25 ⟨rfl, hb⟩
  replace X := X.next hb
  replace HB := Lib.hid (thn HB.out hb)
  clear hb x0 x1 x2 x3 xl
  obtain ⟨x0, x1, x2, x3, xl⟩ := id X
  go_wp2_with fail
  refine (H9.out _).mono ?_
  rintro e w26 ⟨⟨k, rfl, hk⟩, hb⟩
  replace X := X.next hb
  replace HB := Lib.hid (thn HB.out hb)
  clear hb x0 x1 x2 x3 xl
  have g6 : ¬ k > x := by omega
  clear hk
  obtain ⟨x0, x1, x2, x3, xl⟩ := id X
  go_wp2_with fail
  refine (H10.out _).mono ?_
  rintro e w27 ⟨rfl, hb⟩
  replace X := X.next hb
  replace HB := Lib.hid (thn HB.out hb)
  clear hb x0 x1 x2 x3 xl
  obtain ⟨x0, x1, x2, x3, xl⟩ := id X
  go_wp2_with fail
  refine (H11.out _).mono ?_
  rintro e w28 ⟨⟨E, hE, rfl⟩, hb⟩
  replace X := X.next hb
  replace HB := Lib.hid (thn HB.out hb)
  clear hb x0 x1 x2 x3 xl
  have hE2 : (E != 0) = true := by simp [hE]
  clear hE
  obtain ⟨x0, x1, x2, x3, xl⟩ := id X
  go_wp2_with fail
  refine (H12.out _).mono ?_
  rintro e w29 ⟨⟨E2, hE3, rfl⟩, hb⟩
  replace X := X.next hb
  replace HB := Lib.hid (thn HB.out hb)
  clear hb x0 x1 x2 x3 xl
  clear hE3
  obtain ⟨x0, x1, x2, x3, xl⟩ := id X
  go_wp2_with fail
  go_ret
  exact ⟨rfl, HB.out⟩
set_option maxRecDepth 8000 in
set_option maxHeartbeats 8000000 in
theorem alt_li (c x d hi : Int) (w : World) (c0 : 0 ≤ c) (c1 : c ≤ 1000) (h0 : -200000 ≤ x) (h1 : x ≤ 6000000) (d0 : -4000 ≤ d) (d1 : d ≤ 4000) (hm : machv (tasv c x d) x d ≤ 2000) (hh : ¬ hi < x) (hh2 : hi ≤ 6000000) :
    Calls Try.prog 3 #[.int .i64 c, .agg #[.int .i64 x, .int .i64 d], .int .i64 hi] w fun e w' => e = .returned (.bool true) ∧ Below w.heap.size w w' := by
  have HP := Lib.hid (fun w => pressure_ok 250000 w (by omega) (by omega))
  rw [ex_pre] at HP
  have HT := Lib.hid (fun w => tas_ok 250 1000000 0 w (by omega) (by omega) (by omega) (by omega) (by omega) (by omega))
  rw [ex_tas] at HT
  obtain ⟨t0, t1⟩ := tas_b c0 c1 h0 h1 d0 d1
  obtain ⟨k0, k1, k2⟩ := cas_back c0 c1 h0 h1 d0 d1
  have H1 := Lib.hid (fun w => tas_ok c x d w c0 c1 h0 h1 d0 d1)
  have H2 := Lib.hid (fun w => mach_ok (tasv c x d) x d w t0 (by omega) h0 h1 d0 d1)
  have H3 := Lib.hid (fun w => cas_ok (tasv c x d) x d w t0 (by omega) h0 h1 d0 d1 (by omega))
  have H4 := Lib.hid (fun w => tas_ok (casv (tasv c x d) x d) x d w k0 (by omega) h0 h1 d0 d1)
  rw [k2] at H4
  have H5 := Lib.hid (fun w => pressure_ok x w h0 h1)
  obtain ⟨p0, p1⟩ := pre_b h0 h1
  have H6 := Lib.hid (fun w => level_any (pre x) w p0 p1)
  have H7 : Hid (∀ h, -200000 ≤ h → h ≤ 6000000 → pre h ≤ pre x → h ≤ x → ∀ w, Calls Try.prog 4 #[.int .i64 h] w fun e w' => e = TwoI (pre x) 0 ∧ Below w.heap.size w w') := Lib.hid (fun h r0 r1 r2 r3 w => by
    have e : pre h = pre x := by have := pre_down r3; omega
    rw [← e]; exact pressure_ok h w r0 r1)
  have g1 : ¬ casv (tasv c x d) x d > c := by omega
  have HX := Lib.hid (And.intro h0 h1)
  obtain ⟨m0, m1⟩ := mach_b (x := x) (d := d) t0 (by omega) h0 h1 d0 d1
  have o1 := ofm_le t0 h0 h1 d0 d1
  have H8 := Lib.hid (fun w => ofm_ok (machv (tasv c x d) x d) x d w m0 hm h0 h1 d0 d1)
  have H9 := Lib.hid (fun w => crossover_any c (machv (tasv c x d) x d) d x w c0 c1 m0 hm d0 d1 h0 h1 (Int.le_refl _))
  have H10 := Lib.hid (fun w => schedule_any c (machv (tasv c x d) x d) x d w c0 c1 m0 hm h0 h1 d0 d1 o1)
  have g2 : ¬ ofmv (machv (tasv c x d) x d) x d > tasv c x d := by omega
  clear m0 m1 o1
  obtain ⟨u0, u1⟩ := tas_b (x := hi) c0 c1 (by omega) hh2 d0 d1
  have H11 := Lib.hid (fun w => tas_ok c hi d w c0 c1 (by omega) hh2 d0 d1)
  have H12 := Lib.hid (fun w => mach_ok (tasv c hi d) hi d w u0 (by omega) (by omega) hh2 d0 d1)
  have g3 : tasv c x d ≤ tasv c hi d := tas_up c0 (by omega) d0 d1
  have g4 : machv (tasv c x d) x d ≤ machv (tasv c hi d) hi d := mach_up c0 c1 h0 (by omega) hh2 d0 d1
  generalize machv (tasv c hi d) hi d = n at *
  generalize tasv c hi d = u at *
  clear u0 u1
  clear t0 t1 k0 k1 k2 p0 p1 c0 c1 h0 h1 d0 d1 hh2
  generalize ofmv (machv (tasv c x d) x d) x d = o at *
  generalize casv (tasv c x d) x d = cc at *
  generalize machv (tasv c x d) x d = m at *
  generalize tasv c x d = t at *
  obtain ⟨p, hp⟩ : ∃ p, p = pre x := ⟨_, rfl⟩
  rw [← hp] at H5 H6 H7
  have HPQ : Hid (pre x ≤ p) := Lib.hid (by omega)
  clear hp
  go_enter Try.func3, Try.ntmps3
  go_wp2_with fail
  have X := c2_new w (.int .i64 x) (.int .i64 d) 23
  have HB := Lib.hid (below_alloc1 w (.cells #[.int .i64 x, .int .i64 d] 23))
  generalize w.alloc (.cells #[.int .i64 x, .int .i64 d] 23) = v0 at *
  obtain ⟨x0, x1, x2, x3, xl⟩ := id X
  refine (HP.out _).mono ?_
  rintro e w30 ⟨rfl, hb⟩
  replace X := X.next hb
  replace HB := Lib.hid (thn HB.out hb)
  clear hb x0 x1 x2 x3 xl
  obtain ⟨x0, x1, x2, x3, xl⟩ := id X
  go_wp2_with fail
  refine (HT.out _).mono ?_
  rintro e w31 ⟨rfl, hb⟩
  replace X := X.next hb
  replace HB := Lib.hid (thn HB.out hb)
  clear hb x0 x1 x2 x3 xl
  obtain ⟨x0, x1, x2, x3, xl⟩ := id X
  go_wp2_with fail
  refine (H1.out _).mono ?_
  rintro e w32 ⟨rfl, hb⟩
  replace X := X.next hb
  replace HB := Lib.hid (thn HB.out hb)
  clear hb x0 x1 x2 x3 xl
  obtain ⟨x0, x1, x2, x3, xl⟩ := id X
  go_wp2_with fail
  refine (H2.out _).mono ?_
  rintro e w33 ⟨rfl, hb⟩
  replace X := X.next hb
  replace HB := Lib.hid (thn HB.out hb)
  clear hb x0 x1 x2 x3 xl
  obtain ⟨x0, x1, x2, x3, xl⟩ := id X
  go_wp2_with fail
  refine (H3.out _).mono ?_
  rintro e w34 ⟨rfl, hb⟩
  replace X := X.next hb
  replace HB := Lib.hid (thn HB.out hb)
  clear hb x0 x1 x2 x3 xl
  obtain ⟨x0, x1, x2, x3, xl⟩ := id X
  go_wp2_with fail
  refine (H4.out _).mono ?_
  rintro e w35 ⟨rfl, hb⟩
  replace X := X.next hb
  replace HB := Lib.hid (thn HB.out hb)
  clear hb x0 x1 x2 x3 xl
  obtain ⟨x0, x1, x2, x3, xl⟩ := id X
  go_wp2_with fail
  refine (H5.out _).mono ?_
  rintro e w36 ⟨rfl, hb⟩
  replace X := X.next hb
  replace HB := Lib.hid (thn HB.out hb)
  clear hb x0 x1 x2 x3 xl
  obtain ⟨x0, x1, x2, x3, xl⟩ := id X
  go_wp2_with fail
  refine (H6.out _).mono ?_
  rintro e w37 ⟨⟨h, rfl, ⟨r0, r1⟩, r2, r3⟩, hb⟩
  replace X := X.next hb
  replace HB := Lib.hid (thn HB.out hb)
  clear hb x0 x1 x2 x3 xl
  have HPX := HPQ.out
  have r4 : Hid (h ≤ x) := Lib.hid (r3 x HX.out.1 HX.out.2 HPX)
  have g5 : ¬ h > x := by have := r4.out; omega
  have H7h := Lib.hid (H7.out h r0 r1 r2 r4.out)
  clear HPX r0 r1 r2 r3
  obtain ⟨x0, x1, x2, x3, xl⟩ := id X
  go_wp2_with fail
  refine (H7h.out _).mono ?_
  rintro e w38 ⟨rfl, hb⟩
  replace X := X.next hb
  replace HB := Lib.hid (thn HB.out hb)
  clear hb x0 x1 x2 x3 xl
  obtain ⟨x0, x1, x2, x3, xl⟩ := id X
  go_wp2_with fail
  refine (H8.out _).mono ?_
  rintro e w39 ⟨rfl, hb⟩
  replace X := X.next hb
  replace HB := Lib.hid (thn HB.out hb)
  clear hb x0 x1 x2 x3 xl
  obtain ⟨x0, x1, x2, x3, xl⟩ := id X
  go_wp2_with fail
  refine (H9.out _).mono ?_
  rintro e w40 ⟨⟨k, rfl, hk⟩, hb⟩
  replace X := X.next hb
  replace HB := Lib.hid (thn HB.out hb)
  clear hb x0 x1 x2 x3 xl
  have g6 : ¬ k > x := by omega
  clear hk
  obtain ⟨x0, x1, x2, x3, xl⟩ := id X
  go_wp2_with fail
  refine (H10.out _).mono ?_
  rintro e w41 ⟨rfl, hb⟩
  replace X := X.next hb
  replace HB := Lib.hid (thn HB.out hb)
  clear hb x0 x1 x2 x3 xl
  obtain ⟨x0, x1, x2, x3, xl⟩ := id X
  go_wp2_with fail
  refine (H11.out _).mono ?_
  rintro e w42 ⟨rfl, hb⟩
  replace X := X.next hb
  replace HB := Lib.hid (thn HB.out hb)
  clear hb x0 x1 x2 x3 xl
  obtain ⟨x0, x1, x2, x3, xl⟩ := id X
  go_wp2_with fail
  refine (H12.out _).mono ?_
  rintro e w43 ⟨rfl, hb⟩
  replace X := X.next hb
  replace HB := Lib.hid (thn HB.out hb)
  clear hb x0 x1 x2 x3 xl
  obtain ⟨x0, x1, x2, x3, xl⟩ := id X
  go_wp2_with fail
  go_ret
  exact ⟨rfl, HB.out⟩
set_option maxRecDepth 8000 in
set_option maxHeartbeats 8000000 in
theorem alt_gl (c x d hi : Int) (w : World) (c0 : 0 ≤ c) (c1 : c ≤ 1000) (h0 : -200000 ≤ x) (h1 : x ≤ 6000000) (d0 : -4000 ≤ d) (d1 : d ≤ 4000) (hm : ¬ machv (tasv c x d) x d ≤ 2000) (hh : hi < x) :
    Calls Try.prog 3 #[.int .i64 c, .agg #[.int .i64 x, .int .i64 d], .int .i64 hi] w fun e w' => e = .returned (.bool true) ∧ Below w.heap.size w w' := by
  have HP := Lib.hid (fun w => pressure_ok 250000 w (by omega) (by omega))
  rw [ex_pre] at HP
  have HT := Lib.hid (fun w => tas_ok 250 1000000 0 w (by omega) (by omega) (by omega) (by omega) (by omega) (by omega))
  rw [ex_tas] at HT
  obtain ⟨t0, t1⟩ := tas_b c0 c1 h0 h1 d0 d1
  obtain ⟨k0, k1, k2⟩ := cas_back c0 c1 h0 h1 d0 d1
  have H1 := Lib.hid (fun w => tas_ok c x d w c0 c1 h0 h1 d0 d1)
  have H2 := Lib.hid (fun w => mach_ok (tasv c x d) x d w t0 (by omega) h0 h1 d0 d1)
  have H3 := Lib.hid (fun w => cas_ok (tasv c x d) x d w t0 (by omega) h0 h1 d0 d1 (by omega))
  have H4 := Lib.hid (fun w => tas_ok (casv (tasv c x d) x d) x d w k0 (by omega) h0 h1 d0 d1)
  rw [k2] at H4
  have H5 := Lib.hid (fun w => pressure_ok x w h0 h1)
  obtain ⟨p0, p1⟩ := pre_b h0 h1
  have H6 := Lib.hid (fun w => level_any (pre x) w p0 p1)
  have H7 : Hid (∀ h, -200000 ≤ h → h ≤ 6000000 → pre h ≤ pre x → h ≤ x → ∀ w, Calls Try.prog 4 #[.int .i64 h] w fun e w' => e = TwoI (pre x) 0 ∧ Below w.heap.size w w') := Lib.hid (fun h r0 r1 r2 r3 w => by
    have e : pre h = pre x := by have := pre_down r3; omega
    rw [← e]; exact pressure_ok h w r0 r1)
  have g1 : ¬ casv (tasv c x d) x d > c := by omega
  have HX := Lib.hid (And.intro h0 h1)
  clear t0 t1 k0 k1 k2 p0 p1 c0 c1 h0 h1 d0 d1
  generalize casv (tasv c x d) x d = cc at *
  generalize machv (tasv c x d) x d = m at *
  generalize tasv c x d = t at *
  obtain ⟨p, hp⟩ : ∃ p, p = pre x := ⟨_, rfl⟩
  rw [← hp] at H5 H6 H7
  have HPQ : Hid (pre x ≤ p) := Lib.hid (by omega)
  clear hp
  go_enter Try.func3, Try.ntmps3
  go_wp2_with fail
  have X := c2_new w (.int .i64 x) (.int .i64 d) 23
  have HB := Lib.hid (below_alloc1 w (.cells #[.int .i64 x, .int .i64 d] 23))
  generalize w.alloc (.cells #[.int .i64 x, .int .i64 d] 23) = v0 at *
  obtain ⟨x0, x1, x2, x3, xl⟩ := id X
  refine (HP.out _).mono ?_
  rintro e w44 ⟨rfl, hb⟩
  replace X := X.next hb
  replace HB := Lib.hid (thn HB.out hb)
  clear hb x0 x1 x2 x3 xl
  obtain ⟨x0, x1, x2, x3, xl⟩ := id X
  go_wp2_with fail
  refine (HT.out _).mono ?_
  rintro e w45 ⟨rfl, hb⟩
  replace X := X.next hb
  replace HB := Lib.hid (thn HB.out hb)
  clear hb x0 x1 x2 x3 xl
  obtain ⟨x0, x1, x2, x3, xl⟩ := id X
  go_wp2_with fail
  refine (H1.out _).mono ?_
  rintro e w46 ⟨rfl, hb⟩
  replace X := X.next hb
  replace HB := Lib.hid (thn HB.out hb)
  clear hb x0 x1 x2 x3 xl
  obtain ⟨x0, x1, x2, x3, xl⟩ := id X
  go_wp2_with fail
  refine (H2.out _).mono ?_
  rintro e w47 ⟨rfl, hb⟩
  replace X := X.next hb
  replace HB := Lib.hid (thn HB.out hb)
  clear hb x0 x1 x2 x3 xl
  obtain ⟨x0, x1, x2, x3, xl⟩ := id X
  go_wp2_with fail
  refine (H3.out _).mono ?_
  rintro e w48 ⟨rfl, hb⟩
  replace X := X.next hb
  replace HB := Lib.hid (thn HB.out hb)
  clear hb x0 x1 x2 x3 xl
  obtain ⟨x0, x1, x2, x3, xl⟩ := id X
  go_wp2_with fail
  refine (H4.out _).mono ?_
  rintro e w49 ⟨rfl, hb⟩
  replace X := X.next hb
  replace HB := Lib.hid (thn HB.out hb)
  clear hb x0 x1 x2 x3 xl
  obtain ⟨x0, x1, x2, x3, xl⟩ := id X
  go_wp2_with fail
  refine (H5.out _).mono ?_
  rintro e w50 ⟨rfl, hb⟩
  replace X := X.next hb
  replace HB := Lib.hid (thn HB.out hb)
  clear hb x0 x1 x2 x3 xl
  obtain ⟨x0, x1, x2, x3, xl⟩ := id X
  go_wp2_with fail
  refine (H6.out _).mono ?_
  rintro e w51 ⟨⟨h, rfl, ⟨r0, r1⟩, r2, r3⟩, hb⟩
  replace X := X.next hb
  replace HB := Lib.hid (thn HB.out hb)
  clear hb x0 x1 x2 x3 xl
  have HPX := HPQ.out
  have r4 : Hid (h ≤ x) := Lib.hid (r3 x HX.out.1 HX.out.2 HPX)
  have g5 : ¬ h > x := by have := r4.out; omega
  have H7h := Lib.hid (H7.out h r0 r1 r2 r4.out)
  clear HPX r0 r1 r2 r3
  obtain ⟨x0, x1, x2, x3, xl⟩ := id X
  go_wp2_with fail
  refine (H7h.out _).mono ?_
  rintro e w52 ⟨rfl, hb⟩
  replace X := X.next hb
  replace HB := Lib.hid (thn HB.out hb)
  clear hb x0 x1 x2 x3 xl
  obtain ⟨x0, x1, x2, x3, xl⟩ := id X
  go_wp2_with fail
  go_ret
  exact ⟨rfl, HB.out⟩
set_option maxRecDepth 8000 in
set_option maxHeartbeats 8000000 in
theorem alt_go (c x d hi : Int) (w : World) (c0 : 0 ≤ c) (c1 : c ≤ 1000) (h0 : -200000 ≤ x) (h1 : x ≤ 6000000) (d0 : -4000 ≤ d) (d1 : d ≤ 4000) (hm : ¬ machv (tasv c x d) x d ≤ 2000) (hh : ¬ hi < x) (hh2 : hi > 6000000) :
    Calls Try.prog 3 #[.int .i64 c, .agg #[.int .i64 x, .int .i64 d], .int .i64 hi] w fun e w' => e = .returned (.bool true) ∧ Below w.heap.size w w' := by
  have HP := Lib.hid (fun w => pressure_ok 250000 w (by omega) (by omega))
  rw [ex_pre] at HP
  have HT := Lib.hid (fun w => tas_ok 250 1000000 0 w (by omega) (by omega) (by omega) (by omega) (by omega) (by omega))
  rw [ex_tas] at HT
  obtain ⟨t0, t1⟩ := tas_b c0 c1 h0 h1 d0 d1
  obtain ⟨k0, k1, k2⟩ := cas_back c0 c1 h0 h1 d0 d1
  have H1 := Lib.hid (fun w => tas_ok c x d w c0 c1 h0 h1 d0 d1)
  have H2 := Lib.hid (fun w => mach_ok (tasv c x d) x d w t0 (by omega) h0 h1 d0 d1)
  have H3 := Lib.hid (fun w => cas_ok (tasv c x d) x d w t0 (by omega) h0 h1 d0 d1 (by omega))
  have H4 := Lib.hid (fun w => tas_ok (casv (tasv c x d) x d) x d w k0 (by omega) h0 h1 d0 d1)
  rw [k2] at H4
  have H5 := Lib.hid (fun w => pressure_ok x w h0 h1)
  obtain ⟨p0, p1⟩ := pre_b h0 h1
  have H6 := Lib.hid (fun w => level_any (pre x) w p0 p1)
  have H7 : Hid (∀ h, -200000 ≤ h → h ≤ 6000000 → pre h ≤ pre x → h ≤ x → ∀ w, Calls Try.prog 4 #[.int .i64 h] w fun e w' => e = TwoI (pre x) 0 ∧ Below w.heap.size w w') := Lib.hid (fun h r0 r1 r2 r3 w => by
    have e : pre h = pre x := by have := pre_down r3; omega
    rw [← e]; exact pressure_ok h w r0 r1)
  have g1 : ¬ casv (tasv c x d) x d > c := by omega
  have HX := Lib.hid (And.intro h0 h1)
  have H11 := Lib.hid (fun w => tas_no c hi d w (by omega))
  have H12 := Lib.hid (fun w => mach_no 0 hi d w (by omega))
  clear t0 t1 k0 k1 k2 p0 p1 c0 c1 h0 h1 d0 d1 hh2
  generalize casv (tasv c x d) x d = cc at *
  generalize machv (tasv c x d) x d = m at *
  generalize tasv c x d = t at *
  obtain ⟨p, hp⟩ : ∃ p, p = pre x := ⟨_, rfl⟩
  rw [← hp] at H5 H6 H7
  have HPQ : Hid (pre x ≤ p) := Lib.hid (by omega)
  clear hp
  go_enter Try.func3, Try.ntmps3
  go_wp2_with fail
  have X := c2_new w (.int .i64 x) (.int .i64 d) 23
  have HB := Lib.hid (below_alloc1 w (.cells #[.int .i64 x, .int .i64 d] 23))
  generalize w.alloc (.cells #[.int .i64 x, .int .i64 d] 23) = v0 at *
  obtain ⟨x0, x1, x2, x3, xl⟩ := id X
  refine (HP.out _).mono ?_
  rintro e w53 ⟨rfl, hb⟩
  replace X := X.next hb
  replace HB := Lib.hid (thn HB.out hb)
  clear hb x0 x1 x2 x3 xl
  obtain ⟨x0, x1, x2, x3, xl⟩ := id X
  go_wp2_with fail
  refine (HT.out _).mono ?_
  rintro e w54 ⟨rfl, hb⟩
  replace X := X.next hb
  replace HB := Lib.hid (thn HB.out hb)
  clear hb x0 x1 x2 x3 xl
  obtain ⟨x0, x1, x2, x3, xl⟩ := id X
  go_wp2_with fail
  refine (H1.out _).mono ?_
  rintro e w55 ⟨rfl, hb⟩
  replace X := X.next hb
  replace HB := Lib.hid (thn HB.out hb)
  clear hb x0 x1 x2 x3 xl
  obtain ⟨x0, x1, x2, x3, xl⟩ := id X
  go_wp2_with fail
  refine (H2.out _).mono ?_
  rintro e w56 ⟨rfl, hb⟩
  replace X := X.next hb
  replace HB := Lib.hid (thn HB.out hb)
  clear hb x0 x1 x2 x3 xl
  obtain ⟨x0, x1, x2, x3, xl⟩ := id X
  go_wp2_with fail
  refine (H3.out _).mono ?_
  rintro e w57 ⟨rfl, hb⟩
  replace X := X.next hb
  replace HB := Lib.hid (thn HB.out hb)
  clear hb x0 x1 x2 x3 xl
  obtain ⟨x0, x1, x2, x3, xl⟩ := id X
  go_wp2_with fail
  refine (H4.out _).mono ?_
  rintro e w58 ⟨rfl, hb⟩
  replace X := X.next hb
  replace HB := Lib.hid (thn HB.out hb)
  clear hb x0 x1 x2 x3 xl
  obtain ⟨x0, x1, x2, x3, xl⟩ := id X
  go_wp2_with fail
  refine (H5.out _).mono ?_
  rintro e w59 ⟨rfl, hb⟩
  replace X := X.next hb
  replace HB := Lib.hid (thn HB.out hb)
  clear hb x0 x1 x2 x3 xl
  obtain ⟨x0, x1, x2, x3, xl⟩ := id X
  go_wp2_with fail
  refine (H6.out _).mono ?_
  rintro e w60 ⟨⟨h, rfl, ⟨r0, r1⟩, r2, r3⟩, hb⟩
  replace X := X.next hb
  replace HB := Lib.hid (thn HB.out hb)
  clear hb x0 x1 x2 x3 xl
  have HPX := HPQ.out
  have r4 : Hid (h ≤ x) := Lib.hid (r3 x HX.out.1 HX.out.2 HPX)
  have g5 : ¬ h > x := by have := r4.out; omega
  have H7h := Lib.hid (H7.out h r0 r1 r2 r4.out)
  clear HPX r0 r1 r2 r3
  obtain ⟨x0, x1, x2, x3, xl⟩ := id X
  go_wp2_with fail
  refine (H7h.out _).mono ?_
  rintro e w61 ⟨rfl, hb⟩
  replace X := X.next hb
  replace HB := Lib.hid (thn HB.out hb)
  clear hb x0 x1 x2 x3 xl
  obtain ⟨x0, x1, x2, x3, xl⟩ := id X
  go_wp2_with fail
  refine (H11.out _).mono ?_
  rintro e w62 ⟨⟨E, hE, rfl⟩, hb⟩
  replace X := X.next hb
  replace HB := Lib.hid (thn HB.out hb)
  clear hb x0 x1 x2 x3 xl
  have hE2 : (E != 0) = true := by simp [hE]
  clear hE
  obtain ⟨x0, x1, x2, x3, xl⟩ := id X
  go_wp2_with fail
  refine (H12.out _).mono ?_
  rintro e w63 ⟨⟨E2, hE3, rfl⟩, hb⟩
  replace X := X.next hb
  replace HB := Lib.hid (thn HB.out hb)
  clear hb x0 x1 x2 x3 xl
  clear hE3
  obtain ⟨x0, x1, x2, x3, xl⟩ := id X
  go_wp2_with fail
  go_ret
  exact ⟨rfl, HB.out⟩
set_option maxRecDepth 8000 in
set_option maxHeartbeats 8000000 in
theorem alt_gi (c x d hi : Int) (w : World) (c0 : 0 ≤ c) (c1 : c ≤ 1000) (h0 : -200000 ≤ x) (h1 : x ≤ 6000000) (d0 : -4000 ≤ d) (d1 : d ≤ 4000) (hm : ¬ machv (tasv c x d) x d ≤ 2000) (hh : ¬ hi < x) (hh2 : hi ≤ 6000000) :
    Calls Try.prog 3 #[.int .i64 c, .agg #[.int .i64 x, .int .i64 d], .int .i64 hi] w fun e w' => e = .returned (.bool true) ∧ Below w.heap.size w w' := by
  have HP := Lib.hid (fun w => pressure_ok 250000 w (by omega) (by omega))
  rw [ex_pre] at HP
  have HT := Lib.hid (fun w => tas_ok 250 1000000 0 w (by omega) (by omega) (by omega) (by omega) (by omega) (by omega))
  rw [ex_tas] at HT
  obtain ⟨t0, t1⟩ := tas_b c0 c1 h0 h1 d0 d1
  obtain ⟨k0, k1, k2⟩ := cas_back c0 c1 h0 h1 d0 d1
  have H1 := Lib.hid (fun w => tas_ok c x d w c0 c1 h0 h1 d0 d1)
  have H2 := Lib.hid (fun w => mach_ok (tasv c x d) x d w t0 (by omega) h0 h1 d0 d1)
  have H3 := Lib.hid (fun w => cas_ok (tasv c x d) x d w t0 (by omega) h0 h1 d0 d1 (by omega))
  have H4 := Lib.hid (fun w => tas_ok (casv (tasv c x d) x d) x d w k0 (by omega) h0 h1 d0 d1)
  rw [k2] at H4
  have H5 := Lib.hid (fun w => pressure_ok x w h0 h1)
  obtain ⟨p0, p1⟩ := pre_b h0 h1
  have H6 := Lib.hid (fun w => level_any (pre x) w p0 p1)
  have H7 : Hid (∀ h, -200000 ≤ h → h ≤ 6000000 → pre h ≤ pre x → h ≤ x → ∀ w, Calls Try.prog 4 #[.int .i64 h] w fun e w' => e = TwoI (pre x) 0 ∧ Below w.heap.size w w') := Lib.hid (fun h r0 r1 r2 r3 w => by
    have e : pre h = pre x := by have := pre_down r3; omega
    rw [← e]; exact pressure_ok h w r0 r1)
  have g1 : ¬ casv (tasv c x d) x d > c := by omega
  have HX := Lib.hid (And.intro h0 h1)
  obtain ⟨u0, u1⟩ := tas_b (x := hi) c0 c1 (by omega) hh2 d0 d1
  have H11 := Lib.hid (fun w => tas_ok c hi d w c0 c1 (by omega) hh2 d0 d1)
  have H12 := Lib.hid (fun w => mach_ok (tasv c hi d) hi d w u0 (by omega) (by omega) hh2 d0 d1)
  have g3 : tasv c x d ≤ tasv c hi d := tas_up c0 (by omega) d0 d1
  have g4 : machv (tasv c x d) x d ≤ machv (tasv c hi d) hi d := mach_up c0 c1 h0 (by omega) hh2 d0 d1
  generalize machv (tasv c hi d) hi d = n at *
  generalize tasv c hi d = u at *
  clear u0 u1
  clear t0 t1 k0 k1 k2 p0 p1 c0 c1 h0 h1 d0 d1 hh2
  generalize casv (tasv c x d) x d = cc at *
  generalize machv (tasv c x d) x d = m at *
  generalize tasv c x d = t at *
  obtain ⟨p, hp⟩ : ∃ p, p = pre x := ⟨_, rfl⟩
  rw [← hp] at H5 H6 H7
  have HPQ : Hid (pre x ≤ p) := Lib.hid (by omega)
  clear hp
  go_enter Try.func3, Try.ntmps3
  go_wp2_with fail
  have X := c2_new w (.int .i64 x) (.int .i64 d) 23
  have HB := Lib.hid (below_alloc1 w (.cells #[.int .i64 x, .int .i64 d] 23))
  generalize w.alloc (.cells #[.int .i64 x, .int .i64 d] 23) = v0 at *
  obtain ⟨x0, x1, x2, x3, xl⟩ := id X
  refine (HP.out _).mono ?_
  rintro e w64 ⟨rfl, hb⟩
  replace X := X.next hb
  replace HB := Lib.hid (thn HB.out hb)
  clear hb x0 x1 x2 x3 xl
  obtain ⟨x0, x1, x2, x3, xl⟩ := id X
  go_wp2_with fail
  refine (HT.out _).mono ?_
  rintro e w65 ⟨rfl, hb⟩
  replace X := X.next hb
  replace HB := Lib.hid (thn HB.out hb)
  clear hb x0 x1 x2 x3 xl
  obtain ⟨x0, x1, x2, x3, xl⟩ := id X
  go_wp2_with fail
  refine (H1.out _).mono ?_
  rintro e w66 ⟨rfl, hb⟩
  replace X := X.next hb
  replace HB := Lib.hid (thn HB.out hb)
  clear hb x0 x1 x2 x3 xl
  obtain ⟨x0, x1, x2, x3, xl⟩ := id X
  go_wp2_with fail
  refine (H2.out _).mono ?_
  rintro e w67 ⟨rfl, hb⟩
  replace X := X.next hb
  replace HB := Lib.hid (thn HB.out hb)
  clear hb x0 x1 x2 x3 xl
  obtain ⟨x0, x1, x2, x3, xl⟩ := id X
  go_wp2_with fail
  refine (H3.out _).mono ?_
  rintro e w68 ⟨rfl, hb⟩
  replace X := X.next hb
  replace HB := Lib.hid (thn HB.out hb)
  clear hb x0 x1 x2 x3 xl
  obtain ⟨x0, x1, x2, x3, xl⟩ := id X
  go_wp2_with fail
  refine (H4.out _).mono ?_
  rintro e w69 ⟨rfl, hb⟩
  replace X := X.next hb
  replace HB := Lib.hid (thn HB.out hb)
  clear hb x0 x1 x2 x3 xl
  obtain ⟨x0, x1, x2, x3, xl⟩ := id X
  go_wp2_with fail
  refine (H5.out _).mono ?_
  rintro e w70 ⟨rfl, hb⟩
  replace X := X.next hb
  replace HB := Lib.hid (thn HB.out hb)
  clear hb x0 x1 x2 x3 xl
  obtain ⟨x0, x1, x2, x3, xl⟩ := id X
  go_wp2_with fail
  refine (H6.out _).mono ?_
  rintro e w71 ⟨⟨h, rfl, ⟨r0, r1⟩, r2, r3⟩, hb⟩
  replace X := X.next hb
  replace HB := Lib.hid (thn HB.out hb)
  clear hb x0 x1 x2 x3 xl
  have HPX := HPQ.out
  have r4 : Hid (h ≤ x) := Lib.hid (r3 x HX.out.1 HX.out.2 HPX)
  have g5 : ¬ h > x := by have := r4.out; omega
  have H7h := Lib.hid (H7.out h r0 r1 r2 r4.out)
  clear HPX r0 r1 r2 r3
  obtain ⟨x0, x1, x2, x3, xl⟩ := id X
  go_wp2_with fail
  refine (H7h.out _).mono ?_
  rintro e w72 ⟨rfl, hb⟩
  replace X := X.next hb
  replace HB := Lib.hid (thn HB.out hb)
  clear hb x0 x1 x2 x3 xl
  obtain ⟨x0, x1, x2, x3, xl⟩ := id X
  go_wp2_with fail
  refine (H11.out _).mono ?_
  rintro e w73 ⟨rfl, hb⟩
  replace X := X.next hb
  replace HB := Lib.hid (thn HB.out hb)
  clear hb x0 x1 x2 x3 xl
  obtain ⟨x0, x1, x2, x3, xl⟩ := id X
  go_wp2_with fail
  refine (H12.out _).mono ?_
  rintro e w74 ⟨rfl, hb⟩
  replace X := X.next hb
  replace HB := Lib.hid (thn HB.out hb)
  clear hb x0 x1 x2 x3 xl
  obtain ⟨x0, x1, x2, x3, xl⟩ := id X
  go_wp2_with fail
  go_ret
  exact ⟨rfl, HB.out⟩
theorem topAltitudes_walk (c : Int) (_ : -9223372036854775808 ≤ c ∧ c ≤ 9223372036854775807) (x d : Int) (_ : -9223372036854775808 ≤ x ∧ x ≤ 9223372036854775807) (_ : -9223372036854775808 ≤ d ∧ d ≤ 9223372036854775807) (hi : Int) (_ : -9223372036854775808 ≤ hi ∧ hi ≤ 9223372036854775807) (w : World) :
    Calls Try.prog 3 #[.int .i64 c, .agg #[.int .i64 x, .int .i64 d], .int .i64 hi] w fun e w' => e = .returned (.bool true) ∧ Below w.heap.size w w' := by
  by_cases hc : 0 ≤ c ∧ c ≤ 1000
  · by_cases hx : -200000 ≤ x ∧ x ≤ 6000000
    · by_cases hd : -4000 ≤ d ∧ d ≤ 4000
      · obtain ⟨c0, c1⟩ := hc
        obtain ⟨h0, h1⟩ := hx
        obtain ⟨d0, d1⟩ := hd
        by_cases hm : machv (tasv c x d) x d ≤ 2000
        · by_cases hh : hi < x
          · exact alt_ll c x d hi w c0 c1 h0 h1 d0 d1 hm hh
          · by_cases hh2 : hi ≤ 6000000
            · exact alt_li c x d hi w c0 c1 h0 h1 d0 d1 hm hh hh2
            · exact alt_lo c x d hi w c0 c1 h0 h1 d0 d1 hm hh (by omega)
        · by_cases hh : hi < x
          · exact alt_gl c x d hi w c0 c1 h0 h1 d0 d1 hm hh
          · by_cases hh2 : hi ≤ 6000000
            · exact alt_gi c x d hi w c0 c1 h0 h1 d0 d1 hm hh hh2
            · exact alt_go c x d hi w c0 c1 h0 h1 d0 d1 hm hh (by omega)
      · exact alt_bad c x d hi w (by omega)
    · exact alt_bad c x d hi w (by omega)
  · exact alt_bad c x d hi w (by omega)
end Go.Proofs.Ytfchbgcgdcoplaa
