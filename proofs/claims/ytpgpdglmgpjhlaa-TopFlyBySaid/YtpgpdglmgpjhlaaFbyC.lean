/- The walk of turn.FlyBy. -/
import Derived.Test.YtpgpdglmgpjhlaaFbyB
namespace Go.Proofs.Ytpgpdglmgpjhlaa
open Go.RowKit Go.Joins Fdk
set_option linter.unusedVariables false
/-- what FlyBy found. -/
structure Fly (a1 a2 b1 b2 c1 c2 r X Y d L cx cy f sx sy ex ey : Int) : Prop where
  va : pvd a1 a2 = true
  vb : pvd b1 b2 = true
  vc : pvd c1 c2 = true
  r0 : 1 ≤ r
  r1 : r ≤ 8000000
  nab : ¬ (a1 = b1 ∧ a2 = b2)
  nbc : ¬ (b1 = c1 ∧ b2 = c2)
  hX : X = at2 (b1 - a1) (b2 - a2)
  hY : Y = at2 (c1 - b1) (c2 - b2)
  hd : d = adiff X Y
  hs : iabs d ≤ 54000000
  hL : L = qup (r * sn (iabs d / 2)) (cn (iabs d / 2))
  l0 : L ≤ dst2 a1 a2 b1 b2
  l1 : L ≤ dst2 b1 b2 c1 c2
  hf : f = (X + -(if d < 0 then -32400000 else 32400000)) % 129600000
  hS : rayv b1 b2 ((X + 64800000) % 129600000) L = (sx, sy, 0)
  hE : rayv b1 b2 Y L = (ex, ey, 0)
  hC : rayv sx sy ((X + (if d < 0 then -32400000 else 32400000)) % 129600000) r = (cx, cy, 0)
theorem rayv_c (x y g r : Int) : ∃ p q c, rayv x y g r = (p, q, c) ∧ (c = 0 ∨ c = 1 ∨ c = 2) := by
  unfold rayv
  split
  · split
    · exact ⟨_, _, _, rfl, .inr (.inr rfl)⟩
    · split
      · exact ⟨_, _, _, rfl, .inl rfl⟩
      · exact ⟨_, _, _, rfl, .inr (.inr rfl)⟩
  · exact ⟨_, _, _, rfl, .inr (.inl rfl)⟩
/-- all blocks but one are as they were, and two cells of that one. -/
structure By (bk : Nat) (p q : Value) (w w' : World) : Prop where
  bx : Bx bk w w'
  c5 : w'.cell? ⟨bk, 5, none⟩ = some p
  c6 : w'.cell? ⟨bk, 6, none⟩ = some q
theorem By.of {bk : Nat} {w v : World} {x0 x1 x2 x3 x4 x5 x6 x7 x8 x9 : Value} (h : C10 w bk x0 x1 x2 x3 x4 x5 x6 x7 x8 x9) (k : Below w.heap.size w v) : By bk x5 x6 w v := ⟨Bx.of k, (h.next k).c5, (h.next k).c6⟩
theorem By.put {bk : Nat} {w v : World} {p q : Value} (h : By bk p q w v) (x y : Value) : By bk p q w ((v.setCell ⟨bk, 0, none⟩ x).setCell ⟨bk, 1, none⟩ y) :=
  ⟨Bx.put (Bx.put h.bx rfl _) rfl _, (cother (by simp)).trans ((cother (by simp)).trans h.c5), (cother (by simp)).trans ((cother (by simp)).trans h.c6)⟩
set_option maxRecDepth 8000 in
set_option maxHeartbeats 40000000 in
theorem flyby_walk (a1 a2 b1 b2 c1 c2 r : Int) (w : World) (Post : Ending → Prop) (HZ : Hid (∀ E : Int, ¬ E = 0 → Post (.returned (.tuple #[flyV 0 0 0 0 0 0 0 0 0 0, .int .i64 E]))))
    (HK : Hid (∀ X Y d L cx cy f sx sy ex ey, Fly a1 a2 b1 b2 c1 c2 r X Y d L cx cy f sx sy ex ey → Post (.returned (.tuple #[flyV cx cy r f d sx sy ex ey L, .int .i64 0])))) :
    Calls Try.prog 5 #[ptV a1 a2, ptV b1 b2, ptV c1 c2, .int .i64 r] w fun e w' => Post e ∧ Below w.heap.size w w' := by
  go_enter Try.func5, Try.ntmps5
  go_wp2_with fail
  have B := alc (below_alloc3 w (.cells #[.int .i64 a1, .int .i64 a2] 23) (.cells #[.int .i64 b1, .int .i64 b2] 23) (.cells #[.int .i64 c1, .int .i64 c2] 23)) (.cells #[.int .i64 0, .int .i64 0, .int .i64 0, .int .i64 0, .int .i64 0, .int .i64 0, .int .i64 0, .int .i64 0, .int .i64 0, .int .i64 0] 32)
  have TA := (((c2_new w (.int .i64 a1) (.int .i64 a2) 23).alc (.cells #[.int .i64 b1, .int .i64 b2] 23)).alc (.cells #[.int .i64 c1, .int .i64 c2] 23)).alc (.cells #[.int .i64 0, .int .i64 0, .int .i64 0, .int .i64 0, .int .i64 0, .int .i64 0, .int .i64 0, .int .i64 0, .int .i64 0, .int .i64 0] 32)
  have TB := ((c2_new (w.alloc (.cells #[.int .i64 a1, .int .i64 a2] 23)) (.int .i64 b1) (.int .i64 b2) 23).alc (.cells #[.int .i64 c1, .int .i64 c2] 23)).alc (.cells #[.int .i64 0, .int .i64 0, .int .i64 0, .int .i64 0, .int .i64 0, .int .i64 0, .int .i64 0, .int .i64 0, .int .i64 0, .int .i64 0] 32)
  rw [show (w.alloc (.cells #[.int .i64 a1, .int .i64 a2] 23)).heap.size = w.heap.size + 1 by simp] at TB
  have TC := (c2_new ((w.alloc (.cells #[.int .i64 a1, .int .i64 a2] 23)).alloc (.cells #[.int .i64 b1, .int .i64 b2] 23)) (.int .i64 c1) (.int .i64 c2) 23).alc (.cells #[.int .i64 0, .int .i64 0, .int .i64 0, .int .i64 0, .int .i64 0, .int .i64 0, .int .i64 0, .int .i64 0, .int .i64 0, .int .i64 0] 32)
  rw [show ((w.alloc (.cells #[.int .i64 a1, .int .i64 a2] 23)).alloc (.cells #[.int .i64 b1, .int .i64 b2] 23)).heap.size = w.heap.size + 1 + 1 by simp] at TC
  have Z := c10_new (((w.alloc (.cells #[.int .i64 a1, .int .i64 a2] 23)).alloc (.cells #[.int .i64 b1, .int .i64 b2] 23)).alloc (.cells #[.int .i64 c1, .int .i64 c2] 23)) (.int .i64 0) (.int .i64 0) (.int .i64 0) (.int .i64 0) (.int .i64 0) (.int .i64 0) (.int .i64 0) (.int .i64 0) (.int .i64 0) (.int .i64 0) 32
  rw [show (((w.alloc (.cells #[.int .i64 a1, .int .i64 a2] 23)).alloc (.cells #[.int .i64 b1, .int .i64 b2] 23)).alloc (.cells #[.int .i64 c1, .int .i64 c2] 23)).heap.size = w.heap.size + 1 + 1 + 1 by simp] at Z
  generalize (((w.alloc (.cells #[.int .i64 a1, .int .i64 a2] 23)).alloc (.cells #[.int .i64 b1, .int .i64 b2] 23)).alloc (.cells #[.int .i64 c1, .int .i64 c2] 23)).alloc (.cells #[.int .i64 0, .int .i64 0, .int .i64 0, .int .i64 0, .int .i64 0, .int .i64 0, .int .i64 0, .int .i64 0, .int .i64 0, .int .i64 0] 32) = w0 at *
  refine (pvalid_any _ _ _).mono ?_
  rintro e w1 ⟨rfl, hb⟩
  replace B := thn B hb
  replace TA := TA.next hb
  replace TB := TB.next hb
  replace TC := TC.next hb
  replace Z := Z.next hb
  clear hb
  cases hva : pvd a1 a2
  · obtain ⟨z0, z1, z2, z3, z4, z5, z6, z7, z8, z9, z10, z11, z12, z13, z14, z15, z16, z17, z18, z19, zl⟩ := id Z
    go_wp2
    exact bodyPost_ret (v := .tuple #[flyV 0 0 0 0 0 0 0 0 0 0, .int .i64 1]) (by simp [results, Try.results5, go_sem, *]) rfl ⟨HZ.out 1 (by decide), below_put10 B (b := w.heap.size + 1 + 1 + 1) (Nat.le_succ_of_le (Nat.le_succ_of_le (Nat.le_succ _))) (.int .i64 0) (.int .i64 0) (.int .i64 0) (.int .i64 0) (.int .i64 0) (.int .i64 0) (.int .i64 0) (.int .i64 0) (.int .i64 0) (.int .i64 0)⟩
  have HVa := Lib.hid hva
  clear hva
  obtain ⟨t0, t1, t2, t3, tl⟩ := id TB
  go_wp2_with fail
  clear t0 t1 t2 t3 tl
  refine (pvalid_any _ _ _).mono ?_
  rintro e w2 ⟨rfl, hb⟩
  replace B := thn B hb
  replace TA := TA.next hb
  replace TB := TB.next hb
  replace TC := TC.next hb
  replace Z := Z.next hb
  clear hb
  cases hvb : pvd b1 b2
  · obtain ⟨z0, z1, z2, z3, z4, z5, z6, z7, z8, z9, z10, z11, z12, z13, z14, z15, z16, z17, z18, z19, zl⟩ := id Z
    go_wp2
    exact bodyPost_ret (v := .tuple #[flyV 0 0 0 0 0 0 0 0 0 0, .int .i64 1]) (by simp [results, Try.results5, go_sem, *]) rfl ⟨HZ.out 1 (by decide), below_put10 B (b := w.heap.size + 1 + 1 + 1) (Nat.le_succ_of_le (Nat.le_succ_of_le (Nat.le_succ _))) (.int .i64 0) (.int .i64 0) (.int .i64 0) (.int .i64 0) (.int .i64 0) (.int .i64 0) (.int .i64 0) (.int .i64 0) (.int .i64 0) (.int .i64 0)⟩
  have HVb := Lib.hid hvb
  clear hvb
  obtain ⟨t0, t1, t2, t3, tl⟩ := id TC
  go_wp2_with fail
  clear t0 t1 t2 t3 tl
  refine (pvalid_any _ _ _).mono ?_
  rintro e w3 ⟨rfl, hb⟩
  replace B := thn B hb
  replace TA := TA.next hb
  replace TB := TB.next hb
  replace TC := TC.next hb
  replace Z := Z.next hb
  clear hb
  cases hvc : pvd c1 c2
  · obtain ⟨z0, z1, z2, z3, z4, z5, z6, z7, z8, z9, z10, z11, z12, z13, z14, z15, z16, z17, z18, z19, zl⟩ := id Z
    go_wp2
    exact bodyPost_ret (v := .tuple #[flyV 0 0 0 0 0 0 0 0 0 0, .int .i64 1]) (by simp [results, Try.results5, go_sem, *]) rfl ⟨HZ.out 1 (by decide), below_put10 B (b := w.heap.size + 1 + 1 + 1) (Nat.le_succ_of_le (Nat.le_succ_of_le (Nat.le_succ _))) (.int .i64 0) (.int .i64 0) (.int .i64 0) (.int .i64 0) (.int .i64 0) (.int .i64 0) (.int .i64 0) (.int .i64 0) (.int .i64 0) (.int .i64 0)⟩
  have HVc := Lib.hid hvc
  clear hvc
  by_cases r0 : r < 1
  · obtain ⟨z0, z1, z2, z3, z4, z5, z6, z7, z8, z9, z10, z11, z12, z13, z14, z15, z16, z17, z18, z19, zl⟩ := id Z
    go_wp2
    exact bodyPost_ret (v := .tuple #[flyV 0 0 0 0 0 0 0 0 0 0, .int .i64 2]) (by simp [results, Try.results5, go_sem, *]) rfl ⟨HZ.out 2 (by decide), below_put10 B (b := w.heap.size + 1 + 1 + 1) (Nat.le_succ_of_le (Nat.le_succ_of_le (Nat.le_succ _))) (.int .i64 0) (.int .i64 0) (.int .i64 0) (.int .i64 0) (.int .i64 0) (.int .i64 0) (.int .i64 0) (.int .i64 0) (.int .i64 0) (.int .i64 0)⟩
  by_cases r1 : r > 8000000
  · obtain ⟨z0, z1, z2, z3, z4, z5, z6, z7, z8, z9, z10, z11, z12, z13, z14, z15, z16, z17, z18, z19, zl⟩ := id Z
    go_wp2
    exact bodyPost_ret (v := .tuple #[flyV 0 0 0 0 0 0 0 0 0 0, .int .i64 2]) (by simp [results, Try.results5, go_sem, *]) rfl ⟨HZ.out 2 (by decide), below_put10 B (b := w.heap.size + 1 + 1 + 1) (Nat.le_succ_of_le (Nat.le_succ_of_le (Nat.le_succ _))) (.int .i64 0) (.int .i64 0) (.int .i64 0) (.int .i64 0) (.int .i64 0) (.int .i64 0) (.int .i64 0) (.int .i64 0) (.int .i64 0) (.int .i64 0)⟩
  obtain ⟨X, E1, HX, hX⟩ := course_x a1 a2 b1 b2 HVa.out HVb.out
  obtain ⟨Y, E2, HY, hY⟩ := course_x b1 b2 c1 c2 HVb.out HVc.out
  replace HX := Lib.hid HX
  replace HY := Lib.hid HY
  replace hX := Lib.hid hX
  replace hY := Lib.hid hY
  obtain ⟨s0, s1, s2, s3, sl⟩ := id TA
  obtain ⟨t0, t1, t2, t3, tl⟩ := id TB
  go_wp2_with fail
  clear s0 s1 s2 s3 sl t0 t1 t2 t3 tl
  refine (HX.out _).mono ?_
  rintro e w4 ⟨rfl, hb⟩
  replace B := thn B hb
  replace TA := TA.next hb
  replace TB := TB.next hb
  replace TC := TC.next hb
  replace Z := Z.next hb
  clear hb
  obtain ⟨s0, s1, s2, s3, sl⟩ := id TB
  obtain ⟨t0, t1, t2, t3, tl⟩ := id TC
  go_wp2_with fail
  clear s0 s1 s2 s3 sl t0 t1 t2 t3 tl
  refine (HY.out _).mono ?_
  rintro e w5 ⟨rfl, hb⟩
  replace B := thn B hb
  replace TA := TA.next hb
  replace TB := TB.next hb
  replace TC := TC.next hb
  replace Z := Z.next hb
  clear hb
  clear HX HY
  rcases hX.out with he | ⟨he, nab, hXv⟩
  · subst he
    obtain ⟨z0, z1, z2, z3, z4, z5, z6, z7, z8, z9, z10, z11, z12, z13, z14, z15, z16, z17, z18, z19, zl⟩ := id Z
    go_wp2
    exact bodyPost_ret (v := .tuple #[flyV 0 0 0 0 0 0 0 0 0 0, .int .i64 10]) (by simp [results, Try.results5, go_sem, *]) rfl ⟨HZ.out 10 (by decide), below_put10 B (b := w.heap.size + 1 + 1 + 1) (Nat.le_succ_of_le (Nat.le_succ_of_le (Nat.le_succ _))) (.int .i64 0) (.int .i64 0) (.int .i64 0) (.int .i64 0) (.int .i64 0) (.int .i64 0) (.int .i64 0) (.int .i64 0) (.int .i64 0) (.int .i64 0)⟩
  subst he
  rcases hY.out with he | ⟨he, nbc, hYv⟩
  · subst he
    obtain ⟨z0, z1, z2, z3, z4, z5, z6, z7, z8, z9, z10, z11, z12, z13, z14, z15, z16, z17, z18, z19, zl⟩ := id Z
    go_wp2
    exact bodyPost_ret (v := .tuple #[flyV 0 0 0 0 0 0 0 0 0 0, .int .i64 10]) (by simp [results, Try.results5, go_sem, *]) rfl ⟨HZ.out 10 (by decide), below_put10 B (b := w.heap.size + 1 + 1 + 1) (Nat.le_succ_of_le (Nat.le_succ_of_le (Nat.le_succ _))) (.int .i64 0) (.int .i64 0) (.int .i64 0) (.int .i64 0) (.int .i64 0) (.int .i64 0) (.int .i64 0) (.int .i64 0) (.int .i64 0) (.int .i64 0)⟩
  subst he
  clear hX hY
  replace nab := Lib.hid nab
  replace nbc := Lib.hid nbc
  replace hXv := Lib.hid hXv
  replace hYv := Lib.hid hYv
  have HD := Lib.hid (fun w => diff_any X Y w)
  have ad := adiff_b X Y
  obtain ⟨d, hd⟩ : ∃ d, d = adiff X Y := ⟨_, rfl⟩
  rw [← hd] at HD ad
  replace hd := Lib.hid hd
  have HA := Lib.hid (fun w => abs_any d w (by omega) (by omega))
  have S0 : 0 ≤ iabs d := by unfold iabs; split <;> omega
  have S1 : iabs d ≤ 64800000 := by unfold iabs; split <;> omega
  obtain ⟨S, hS⟩ : ∃ S, S = iabs d := ⟨_, rfl⟩
  rw [← hS] at HA S0 S1
  replace hS := Lib.hid hS
  have eh : S.tdiv 2 = S / 2 := Int.tdiv_eq_ediv_of_nonneg S0
  have eh2 : IntKind.i64.wrap (S / 2) = S / 2 := IntWalk.i64_in _ (by omega)
  obtain ⟨h, hh⟩ : ∃ h, h = S / 2 := ⟨_, rfl⟩
  rw [← hh] at eh eh2
  have h0 : 0 ≤ h := by omega
  have hH := Lib.hid hh
  by_cases hc : S > 54000000
  · obtain ⟨z0, z1, z2, z3, z4, z5, z6, z7, z8, z9, z10, z11, z12, z13, z14, z15, z16, z17, z18, z19, zl⟩ := id Z
    go_wp2_with (first | (go_at_call 15; refine (HD.out _).mono ?_; rintro e w1 ⟨rfl, rfl⟩) | (go_at_call 16; refine (HA.out _).mono ?_; rintro e w1 ⟨rfl, rfl⟩) | (go_at_call 18; refine (sin_any _ _).mono ?_; rintro e w1 ⟨rfl, rfl⟩) | (go_at_call 19; refine (cos_any _ _).mono ?_; rintro e w1 ⟨rfl, rfl⟩))
    exact bodyPost_ret (v := .tuple #[flyV 0 0 0 0 0 0 0 0 0 0, .int .i64 10]) (by simp [results, Try.results5, go_sem, *]) rfl ⟨HZ.out 10 (by decide), below_put10 B (b := w.heap.size + 1 + 1 + 1) (Nat.le_succ_of_le (Nat.le_succ_of_le (Nat.le_succ _))) (.int .i64 0) (.int .i64 0) (.int .i64 0) (.int .i64 0) (.int .i64 0) (.int .i64 0) (.int .i64 0) (.int .i64 0) (.int .i64 0) (.int .i64 0)⟩
  have S2 : S ≤ 54000000 := by omega
  have hh1 : h ≤ 27000000 := by omega
  have c27 : cn 27000000 = 277904834 := by decide +kernel
  have b0 : 0 ≤ sn h := by have := sn_mono (a := 0) (b := h) (by omega) (by omega) (by omega); rw [sn_0] at this; exact this
  have b1 := (sn_b h).2
  have b2 := cn_mono h0 hh1 (by omega)
  have b3 := (cn_b h).2
  have HM := Lib.hid (fun w => mdu_any r (sn h) (cn h) w (by omega) (by omega) b0 b1 (by omega) (by omega) (by
    have k := pb (p := r) (q := sn h) (A := 8000000) (B := 1073741824) 8589934592000000 (by omega) (by omega) (by omega) (by decide)
    have k0 : 0 ≤ r * sn h := Int.mul_nonneg (by omega) b0
    have k1 : r * sn h / cn h ≤ r * sn h := Int.ediv_le_self _ k0
    omega))
  obtain ⟨L, hL⟩ : ∃ L, L = qup (r * sn h) (cn h) := ⟨_, rfl⟩
  rw [← hL] at HM
  replace hL := Lib.hid hL
  clear b0 b1 b2 b3 c27
  replace r0 := Lib.hid r0
  replace r1 := Lib.hid r1
  replace S2 := Lib.hid S2
  replace hh := Lib.hid hh
  clear hH hh1
  go_wp2_with (first | (go_at_call 15; refine (HD.out _).mono ?_; rintro e w1 ⟨rfl, rfl⟩) | (go_at_call 16; refine (HA.out _).mono ?_; rintro e w1 ⟨rfl, rfl⟩) | (go_at_call 18; refine (sin_any _ _).mono ?_; rintro e w1 ⟨rfl, rfl⟩) | (go_at_call 19; refine (cos_any _ _).mono ?_; rintro e w1 ⟨rfl, rfl⟩))
  clear eh eh2 h0 S0 S1 hc ad HA HD

  refine (HM.out _).mono ?_
  rintro e w6 ⟨rfl, hd⟩
  have hb := hd.below w5.heap.size
  clear hd
  replace B := thn B hb
  replace TA := TA.next hb
  replace TB := TB.next hb
  replace TC := TC.next hb
  replace Z := Z.next hb
  clear hb
  obtain ⟨s0, s1, s2, s3, sl⟩ := id TA
  obtain ⟨t0, t1, t2, t3, tl⟩ := id TB
  go_wp2_with fail
  clear s0 s1 s2 s3 sl t0 t1 t2 t3 tl
  refine (ldist_any _ _ _ _ _).mono ?_
  rintro e w7 ⟨rfl, hb⟩
  replace B := thn B hb
  replace TA := TA.next hb
  replace TB := TB.next hb
  replace TC := TC.next hb
  replace Z := Z.next hb
  clear hb
  obtain ⟨D1, hD1⟩ : ∃ D1, D1 = dst2 a1 a2 b1 b2 := ⟨_, rfl⟩
  rw [← hD1]
  replace hD1 := Lib.hid hD1
  by_cases l0 : L > D1
  · obtain ⟨z0, z1, z2, z3, z4, z5, z6, z7, z8, z9, z10, z11, z12, z13, z14, z15, z16, z17, z18, z19, zl⟩ := id Z
    go_wp2
    exact bodyPost_ret (v := .tuple #[flyV 0 0 0 0 0 0 0 0 0 0, .int .i64 10]) (by simp [results, Try.results5, go_sem, *]) rfl ⟨HZ.out 10 (by decide), below_put10 B (b := w.heap.size + 1 + 1 + 1) (Nat.le_succ_of_le (Nat.le_succ_of_le (Nat.le_succ _))) (.int .i64 0) (.int .i64 0) (.int .i64 0) (.int .i64 0) (.int .i64 0) (.int .i64 0) (.int .i64 0) (.int .i64 0) (.int .i64 0) (.int .i64 0)⟩
  obtain ⟨s0, s1, s2, s3, sl⟩ := id TB
  obtain ⟨t0, t1, t2, t3, tl⟩ := id TC
  go_wp2_with fail
  clear s0 s1 s2 s3 sl t0 t1 t2 t3 tl
  refine (ldist_any _ _ _ _ _).mono ?_
  rintro e w8 ⟨rfl, hb⟩
  replace B := thn B hb
  replace TA := TA.next hb
  replace TB := TB.next hb
  replace TC := TC.next hb
  replace Z := Z.next hb
  clear hb
  obtain ⟨D2, hD2⟩ : ∃ D2, D2 = dst2 b1 b2 c1 c2 := ⟨_, rfl⟩
  rw [← hD2]
  replace hD2 := Lib.hid hD2
  by_cases l1 : L > D2
  · obtain ⟨z0, z1, z2, z3, z4, z5, z6, z7, z8, z9, z10, z11, z12, z13, z14, z15, z16, z17, z18, z19, zl⟩ := id Z
    go_wp2
    exact bodyPost_ret (v := .tuple #[flyV 0 0 0 0 0 0 0 0 0 0, .int .i64 10]) (by simp [results, Try.results5, go_sem, *]) rfl ⟨HZ.out 10 (by decide), below_put10 B (b := w.heap.size + 1 + 1 + 1) (Nat.le_succ_of_le (Nat.le_succ_of_le (Nat.le_succ _))) (.int .i64 0) (.int .i64 0) (.int .i64 0) (.int .i64 0) (.int .i64 0) (.int .i64 0) (.int .i64 0) (.int .i64 0) (.int .i64 0) (.int .i64 0)⟩
  replace l0 := Lib.hid l0
  go_wp2_with fail
  have O := c10_new w8 (.int .i64 0) (.int .i64 0) (.int .i64 r) (.int .i64 0) (.int .i64 d) (.int .i64 0) (.int .i64 0) (.int .i64 0) (.int .i64 0) (.int .i64 L) 32
  have hbo := Lib.hid B.size
  have nzo : w8.heap.size ≠ w.heap.size + 1 + 1 + 1 := Nat.ne_of_gt Z.lt
  have nbo : w.heap.size + 1 ≠ w8.heap.size := Nat.ne_of_lt TB.lt
  replace B := alc B (.cells #[.int .i64 0, .int .i64 0, .int .i64 r, .int .i64 0, .int .i64 d, .int .i64 0, .int .i64 0, .int .i64 0, .int .i64 0, .int .i64 L] 32)
  replace TB := TB.alc (.cells #[.int .i64 0, .int .i64 0, .int .i64 r, .int .i64 0, .int .i64 d, .int .i64 0, .int .i64 0, .int .i64 0, .int .i64 0, .int .i64 L] 32)
  replace Z := Z.alc (.cells #[.int .i64 0, .int .i64 0, .int .i64 r, .int .i64 0, .int .i64 d, .int .i64 0, .int .i64 0, .int .i64 0, .int .i64 0, .int .i64 L] 32)
  clear TA TC
  generalize w8.alloc (.cells #[.int .i64 0, .int .i64 0, .int .i64 r, .int .i64 0, .int .i64 d, .int .i64 0, .int .i64 0, .int .i64 0, .int .i64 0, .int .i64 L] 32) = v0 at *
  generalize w8.heap.size = bo at *
  have HQ := Lib.hid (fun w => side_any 0 0 r 0 d 32400000 w (by omega))
  obtain ⟨q, hq⟩ : ∃ q, q = if d < 0 then -32400000 else (32400000 : Int) := ⟨_, rfl⟩
  have q0 : q = 32400000 ∨ q = -32400000 := by rw [hq]; split <;> omega
  rw [← hq] at HQ
  replace hq := Lib.hid hq
  have eq : IntKind.i64.wrap (-q) = -q := IntWalk.i64_in _ (by omega)
  clear q0
  have HT := Lib.hid (fun w => turn_any X (-q) w)
  obtain ⟨f, hf⟩ : ∃ f, f = (X + -q) % 129600000 := ⟨_, rfl⟩
  rw [← hf] at HT
  replace hf := Lib.hid hf

  refine (HQ.out _).mono ?_
  rintro e w9 ⟨rfl, hb⟩
  replace B := thn B hb
  replace TB := TB.next hb
  replace Z := Z.next hb
  replace O := O.next hb
  clear hb
  obtain ⟨z0, z1, z2, z3, z4, z5, z6, z7, z8, z9, z10, z11, z12, z13, z14, z15, z16, z17, z18, z19, zl⟩ := id O
  go_wp2_with (go_at_call 21; refine (HT.out _).mono ?_; rintro e w' ⟨rfl, rfl⟩)

  clear z0 z1 z2 z3 z4 z5 z6 z7 z8 z9 z10 z11 z12 z13 z14 z15 z16 z17 z18 z19 zl eq HT HQ
  replace O := O.put3 (.int .i64 f)
  replace B := B.setCell (p := ⟨bo, 3, none⟩) hbo.out (.int .i64 f)
  replace TB := TB.else (p := ⟨bo, 3, none⟩) nbo.symm (.int .i64 f)
  replace Z := Z.else (p := ⟨bo, 3, none⟩) nzo (.int .i64 f)
  generalize w9.setCell ⟨bo, 3, none⟩ (.int .i64 f) = v1 at *
  have HO := Lib.hid (fun w => opp_any X w)
  obtain ⟨sx, sy, es, hr, hes⟩ := rayv_c b1 b2 ((X + 64800000) % 129600000) L
  have HR := Lib.hid (fun w => ray_any b1 b2 ((X + 64800000) % 129600000) L w)
  rw [hr] at HR
  replace hr := Lib.hid hr
  have L0 : ∀ w', Bx bo v1 w' → w'.cell? ⟨w.heap.size + 1, 0, none⟩ = some (.int .i64 b1) := fun _ h => (TB.bx h nbo).c0
  have L1 : ∀ w', Bx bo v1 w' → w'.cell? ⟨w.heap.size + 1, 1, none⟩ = some (.int .i64 b2) := fun _ h => (TB.bx h nbo).c1
  have HB := Lib.hid (And.intro B (And.intro TB (And.intro Z O)))
  clear TB Z B
  go_region_held3 (fun w' => Bx bo v1 w') (first | with_reducible exact Bx.of (bdrew _) | with_reducible exact hS2 | with_reducible exact Bx.put (Bx.put hS2 rfl _) rfl _)
    (first | (go_at_call 22; with_reducible refine (HR.out _).mono ?_; rintro e x2 ⟨rfl, hb2⟩; have hQ2 := thn (bdrew v1) hb2; have hS2 : Bx bo v1 x2 := Bx.of hQ2; have O2 := O.next hQ2; have q0 := O2.c5; have q1 := O2.c6; have r2 := O2.f5; have r3 := O2.f6) | (go_at_call 23; with_reducible refine (HO.out _).mono ?_; rintro e w' ⟨rfl, rfl⟩))
  clear L0 L1 q0 q1 r2 r3 O
  obtain ⟨B, TB, Z, O⟩ := HB.out
  clear HB
  replace B := thn B hQ2
  replace TB := TB.next hQ2
  replace Z := Z.next hQ2
  replace O := (O2.put5 (.int .i64 sx)).put6 (.int .i64 sy)
  replace B := (B.setCell (p := ⟨bo, 5, none⟩) hbo.out (.int .i64 sx)).setCell (p := ⟨bo, 6, none⟩) hbo.out (.int .i64 sy)
  replace TB := (TB.else (p := ⟨bo, 5, none⟩) nbo.symm (.int .i64 sx)).else (p := ⟨bo, 6, none⟩) nbo.symm (.int .i64 sy)
  replace Z := (Z.else (p := ⟨bo, 5, none⟩) nzo (.int .i64 sx)).else (p := ⟨bo, 6, none⟩) nzo (.int .i64 sy)
  clear hS2 hQ2 hb2 O2

  generalize (x2.setCell ⟨bo, 5, none⟩ (.int .i64 sx)).setCell ⟨bo, 6, none⟩ (.int .i64 sy) = v2 at *

  rcases hes with he | he | he
  rotate_left 1
  · subst he
    obtain ⟨z0, z1, z2, z3, z4, z5, z6, z7, z8, z9, z10, z11, z12, z13, z14, z15, z16, z17, z18, z19, zl⟩ := id Z
    repeat (first | go_values | go_skip | go_guarded | go_step | go_upon | go_in)
    exact bodyPost_ret (v := .tuple #[flyV 0 0 0 0 0 0 0 0 0 0, .int .i64 2]) (by simp [results, Try.results5, go_sem, *]) rfl ⟨HZ.out 2 (by decide), below_put10 B (b := w.heap.size + 1 + 1 + 1) (Nat.le_succ_of_le (Nat.le_succ_of_le (Nat.le_succ _))) (.int .i64 0) (.int .i64 0) (.int .i64 0) (.int .i64 0) (.int .i64 0) (.int .i64 0) (.int .i64 0) (.int .i64 0) (.int .i64 0) (.int .i64 0)⟩
  · subst he
    obtain ⟨z0, z1, z2, z3, z4, z5, z6, z7, z8, z9, z10, z11, z12, z13, z14, z15, z16, z17, z18, z19, zl⟩ := id Z
    repeat (first | go_values | go_skip | go_guarded | go_step | go_upon | go_in)
    exact bodyPost_ret (v := .tuple #[flyV 0 0 0 0 0 0 0 0 0 0, .int .i64 2]) (by simp [results, Try.results5, go_sem, *]) rfl ⟨HZ.out 2 (by decide), below_put10 B (b := w.heap.size + 1 + 1 + 1) (Nat.le_succ_of_le (Nat.le_succ_of_le (Nat.le_succ _))) (.int .i64 0) (.int .i64 0) (.int .i64 0) (.int .i64 0) (.int .i64 0) (.int .i64 0) (.int .i64 0) (.int .i64 0) (.int .i64 0) (.int .i64 0)⟩
  subst he
  obtain ⟨ex, ey, ee, hre, hee⟩ := rayv_c b1 b2 Y L
  have HR2 := Lib.hid (fun w => ray_any b1 b2 Y L w)
  rw [hre] at HR2
  replace hre := Lib.hid hre
  obtain ⟨t0, t1, t2, t3, tl⟩ := id TB
  go_wp2_with fail
  clear t0 t1 t2 t3 tl
  refine (HR2.out _).mono ?_
  rintro e w11 ⟨rfl, hb⟩
  replace B := thn B hb
  replace TB := TB.next hb
  replace Z := Z.next hb
  replace O := O.next hb
  clear hb
  obtain ⟨z0, z1, z2, z3, z4, z5, z6, z7, z8, z9, z10, z11, z12, z13, z14, z15, z16, z17, z18, z19, zl⟩ := id O
  go_upto_region 23 with fail
  clear z0 z1 z2 z3 z4 z5 z6 z7 z8 z9 z10 z11 z12 z13 z14 z15 z16 z17 z18 z19 zl TB
  replace O := (O.put7 (.int .i64 ex)).put8 (.int .i64 ey)
  replace B := (B.setCell (p := ⟨bo, 7, none⟩) hbo.out (.int .i64 ex)).setCell (p := ⟨bo, 8, none⟩) hbo.out (.int .i64 ey)
  replace Z := (Z.else (p := ⟨bo, 7, none⟩) nzo (.int .i64 ex)).else (p := ⟨bo, 8, none⟩) nzo (.int .i64 ey)
  generalize (w11.setCell ⟨bo, 7, none⟩ (.int .i64 ex)).setCell ⟨bo, 8, none⟩ (.int .i64 ey) = v3 at *
  rcases hee with he | he | he
  rotate_left 1
  · subst he
    obtain ⟨z0, z1, z2, z3, z4, z5, z6, z7, z8, z9, z10, z11, z12, z13, z14, z15, z16, z17, z18, z19, zl⟩ := id Z
    repeat (first | go_values | go_skip | go_guarded | go_step | go_upon | go_in)
    exact bodyPost_ret (v := .tuple #[flyV 0 0 0 0 0 0 0 0 0 0, .int .i64 2]) (by simp [results, Try.results5, go_sem, *]) rfl ⟨HZ.out 2 (by decide), below_put10 B (b := w.heap.size + 1 + 1 + 1) (Nat.le_succ_of_le (Nat.le_succ_of_le (Nat.le_succ _))) (.int .i64 0) (.int .i64 0) (.int .i64 0) (.int .i64 0) (.int .i64 0) (.int .i64 0) (.int .i64 0) (.int .i64 0) (.int .i64 0) (.int .i64 0)⟩
  · subst he
    obtain ⟨z0, z1, z2, z3, z4, z5, z6, z7, z8, z9, z10, z11, z12, z13, z14, z15, z16, z17, z18, z19, zl⟩ := id Z
    repeat (first | go_values | go_skip | go_guarded | go_step | go_upon | go_in)
    exact bodyPost_ret (v := .tuple #[flyV 0 0 0 0 0 0 0 0 0 0, .int .i64 2]) (by simp [results, Try.results5, go_sem, *]) rfl ⟨HZ.out 2 (by decide), below_put10 B (b := w.heap.size + 1 + 1 + 1) (Nat.le_succ_of_le (Nat.le_succ_of_le (Nat.le_succ _))) (.int .i64 0) (.int .i64 0) (.int .i64 0) (.int .i64 0) (.int .i64 0) (.int .i64 0) (.int .i64 0) (.int .i64 0) (.int .i64 0) (.int .i64 0)⟩
  subst he
  have HT := Lib.hid (fun w => turn_any X q w)
  obtain ⟨cx, cy, ec, hrc, hec⟩ := rayv_c sx sy ((X + q) % 129600000) r
  have HR3 := Lib.hid (fun w => ray_any sx sy ((X + q) % 129600000) r w)
  rw [hrc] at HR3
  replace hrc := Lib.hid hrc
  go_wp2_with fail
  have L0 : ∀ w', By bo (.int .i64 sx) (.int .i64 sy) v3 w' → w'.cell? ⟨bo, 5, none⟩ = some (.int .i64 sx) := fun _ h => h.c5
  have L1 : ∀ w', By bo (.int .i64 sx) (.int .i64 sy) v3 w' → w'.cell? ⟨bo, 6, none⟩ = some (.int .i64 sy) := fun _ h => h.c6
  have HB := Lib.hid (And.intro B Z)
  clear Z B
  go_region_held3 (fun w' => By bo (.int .i64 sx) (.int .i64 sy) v3 w') (first | with_reducible exact By.of O (bdrew _) | with_reducible exact hS2 | with_reducible exact By.put hS2 _ _)
    (first | (go_at_call 22; with_reducible refine (HR3.out _).mono ?_; rintro e x3 ⟨rfl, hb2⟩; have hQ2 := thn (bdrew v3) hb2; have hS2 := By.of O hQ2; have O2 := O.next hQ2; have q0 := O2.c0; have q1 := O2.c1; have r2 := O2.f0; have r3 := O2.f1) | (go_at_call 21; with_reducible refine (HT.out _).mono ?_; rintro e w' ⟨rfl, rfl⟩))
  clear L0 L1 q0 q1 r2 r3 O
  obtain ⟨B, Z⟩ := HB.out
  clear HB
  replace B := thn B hQ2
  replace Z := Z.next hQ2
  have O := (O2.put0 (.int .i64 cx)).put1 (.int .i64 cy)
  replace B := (B.setCell (p := ⟨bo, 0, none⟩) hbo.out (.int .i64 cx)).setCell (p := ⟨bo, 1, none⟩) hbo.out (.int .i64 cy)
  replace Z := (Z.else (p := ⟨bo, 0, none⟩) nzo (.int .i64 cx)).else (p := ⟨bo, 1, none⟩) nzo (.int .i64 cy)
  clear hS2 hQ2 hb2 O2
  generalize (x3.setCell ⟨bo, 0, none⟩ (.int .i64 cx)).setCell ⟨bo, 1, none⟩ (.int .i64 cy) = v4 at *
  rcases hec with he | he | he
  rotate_left 1
  · subst he
    obtain ⟨z0, z1, z2, z3, z4, z5, z6, z7, z8, z9, z10, z11, z12, z13, z14, z15, z16, z17, z18, z19, zl⟩ := id Z
    repeat (first | go_values | go_skip | go_guarded | go_step | go_upon | go_in)
    exact bodyPost_ret (v := .tuple #[flyV 0 0 0 0 0 0 0 0 0 0, .int .i64 2]) (by simp [results, Try.results5, go_sem, *]) rfl ⟨HZ.out 2 (by decide), below_put10 B (b := w.heap.size + 1 + 1 + 1) (Nat.le_succ_of_le (Nat.le_succ_of_le (Nat.le_succ _))) (.int .i64 0) (.int .i64 0) (.int .i64 0) (.int .i64 0) (.int .i64 0) (.int .i64 0) (.int .i64 0) (.int .i64 0) (.int .i64 0) (.int .i64 0)⟩
  · subst he
    obtain ⟨z0, z1, z2, z3, z4, z5, z6, z7, z8, z9, z10, z11, z12, z13, z14, z15, z16, z17, z18, z19, zl⟩ := id Z
    repeat (first | go_values | go_skip | go_guarded | go_step | go_upon | go_in)
    exact bodyPost_ret (v := .tuple #[flyV 0 0 0 0 0 0 0 0 0 0, .int .i64 2]) (by simp [results, Try.results5, go_sem, *]) rfl ⟨HZ.out 2 (by decide), below_put10 B (b := w.heap.size + 1 + 1 + 1) (Nat.le_succ_of_le (Nat.le_succ_of_le (Nat.le_succ _))) (.int .i64 0) (.int .i64 0) (.int .i64 0) (.int .i64 0) (.int .i64 0) (.int .i64 0) (.int .i64 0) (.int .i64 0) (.int .i64 0) (.int .i64 0)⟩
  subst he
  have HF : Fly a1 a2 b1 b2 c1 c2 r X Y d L cx cy f sx sy ex ey := by
    have eq := hq.out
    subst eq
    have er0 := r0.out
    have er1 := r1.out
    have el0 := l0.out
    have eS := hS.out
    subst eS
    have eD := hD1.out
    subst eD
    have eD2 := hD2.out
    subst eD2
    have eh := hh.out
    subst eh
    exact ⟨HVa.out, HVb.out, HVc.out, by omega, by omega, nab.out, nbc.out, hXv.out, hYv.out, hd.out, S2.out, hL.out, by omega, by omega, hf.out, hr.out, hre.out, hrc.out⟩
  replace HF := Lib.hid HF
  obtain ⟨y0, y1, y2, y3, y4, y5, y6, y7, y8, y9, y10, y11, y12, y13, y14, y15, y16, y17, y18, y19, yl⟩ := id O
  obtain ⟨z0, z1, z2, z3, z4, z5, z6, z7, z8, z9, z10, z11, z12, z13, z14, z15, z16, z17, z18, z19, zl⟩ := id Z
  repeat (first | go_values | go_skip | go_guarded | go_step | go_upon | go_in)
  clear z0 y0 z1 y1 z2 y2 z3 y3 z4 y4 z5 y5 z6 y6 z7 y7 z8 y8 z9 y9 z10 y10 z11 y11 z12 y12 z13 y13 z14 y14 z15 y15 z16 y16 z17 y17 z18 y18 z19 y19 zl yl
  have Z5 := Z.put (.int .i64 cx) (.int .i64 cy) (.int .i64 r) (.int .i64 f) (.int .i64 d) (.int .i64 sx) (.int .i64 sy) (.int .i64 ex) (.int .i64 ey) (.int .i64 L)
  have B5 := below_put10 B (b := w.heap.size + 1 + 1 + 1) (Nat.le_succ_of_le (Nat.le_succ_of_le (Nat.le_succ _))) (.int .i64 cx) (.int .i64 cy) (.int .i64 r) (.int .i64 f) (.int .i64 d) (.int .i64 sx) (.int .i64 sy) (.int .i64 ex) (.int .i64 ey) (.int .i64 L)
  obtain ⟨z0, z1, z2, z3, z4, z5, z6, z7, z8, z9, z10, z11, z12, z13, z14, z15, z16, z17, z18, z19, zl⟩ := Z5
  exact bodyPost_ret (v := .tuple #[flyV cx cy r f d sx sy ex ey L, .int .i64 0]) (by simp [results, Try.results5, go_sem, z0, z1, z2, z3, z4, z5, z6, z7, z8, z9]) rfl ⟨HK.out _ _ _ _ _ _ _ _ _ _ _ HF.out, B5⟩

end Go.Proofs.Ytpgpdglmgpjhlaa
