/- Distances of points: both sides. -/
import Derived.Test.YtpgpdglmgpjhlaaHldB
namespace Go.Proofs.Ytpgpdglmgpjhlaa
open Go.RowKit Go.Joins Fdk
set_option linter.unusedVariables false
theorem sq_bh {a c : Int} (h0 : -4000000 ≤ a) (h1 : a ≤ 4000000) (h2 : -4000000 ≤ c) (h3 : c ≤ 4000000) : (-16000000000000 ≤ a * c ∧ a * c ≤ 16000000000000) := pb (p := a) (q := c) 16000000000000 ⟨h0, h1⟩ ⟨h2, h3⟩ (by omega) (by decide)
set_option maxHeartbeats 4000000 in
theorem vector_any (a b c d : Int) (w : World) (h1 : pvd a b = true) (h2 : pvd c d = true) :
    Calls Try.prog 12 #[ptV a b, ptV c d] w fun e w' => e = .returned (ptV (c - a) (d - b)) ∧ Below w.heap.size w w' := by
  have ⟨p1, p2⟩ := pvd_of h1
  have ⟨q1, q2⟩ := pvd_of h2
  clear h1 h2
  have e0 : IntKind.i64.wrap (c - a) = c - a := IntWalk.i64_in _ (by omega)
  have e1 : IntKind.i64.wrap (d - b) = d - b := IntWalk.i64_in _ (by omega)
  go_enter Try.func12, Try.ntmps12
  go_wp2_with fail
  have Z := c2_new ((w.alloc (.cells #[.int .i64 a, .int .i64 b] 23)).alloc (.cells #[.int .i64 c, .int .i64 d] 23)) (.int .i64 (c - a)) (.int .i64 (d - b)) 23
  rw [show ((w.alloc (.cells #[.int .i64 a, .int .i64 b] 23)).alloc (.cells #[.int .i64 c, .int .i64 d] 23)).heap.size = w.heap.size + 1 + 1 by simp] at Z
  have B := below_alloc3 w (.cells #[.int .i64 a, .int .i64 b] 23) (.cells #[.int .i64 c, .int .i64 d] 23) (.cells #[.int .i64 (c - a), .int .i64 (d - b)] 23)
  obtain ⟨z0, z1, z2, z3, zl⟩ := id Z
  exact bodyPost_ret (v := ptV (c - a) (d - b)) (by simp [results, Try.results12, go_sem, *]) rfl ⟨rfl, B⟩
set_option maxHeartbeats 4000000 in
theorem ldot_any (a b c d : Int) (w : World) (h1 : -4000000 ≤ a ∧ a ≤ 4000000) (h2 : -4000000 ≤ b ∧ b ≤ 4000000) (h3 : -4000000 ≤ c ∧ c ≤ 4000000) (h4 : -4000000 ≤ d ∧ d ≤ 4000000) :
    Calls Try.prog 24 #[ptV a b, ptV c d] w fun e w' => e = .returned (.int .i64 (a * c + b * d)) ∧ Below w.heap.size w w' := by
  have m0 := sq_bh h1.1 h1.2 h3.1 h3.2
  have m1 := sq_bh h2.1 h2.2 h4.1 h4.2
  clear h1 h2 h3 h4
  have e0 : IntKind.i64.wrap (a * c) = a * c := IntWalk.i64_in _ (by omega)
  have e1 : IntKind.i64.wrap (b * d) = b * d := IntWalk.i64_in _ (by omega)
  have e2 : IntKind.i64.wrap (a * c + b * d) = a * c + b * d := IntWalk.i64_in _ (by omega)
  go_enter Try.func24, Try.ntmps24
  go_wp2
  go_ret
  exact ⟨rfl, below_alloc2 w _ _⟩
set_option maxHeartbeats 4000000 in
theorem lvalid_any (bk : Nat) (a b c d : Int) (w : World) (T : C4 w bk (.int .i64 a) (.int .i64 b) (.int .i64 c) (.int .i64 d)) :
    Calls Try.prog 11 #[.slice (some ⟨bk, 0, none⟩) 2 2] w fun e w' => e = .returned (.bool (pvd a b && pvd c d)) ∧ Below w.heap.size w w' := by
  have H1 := Lib.hid (fun w => pvalid_any a b w)
  have H2 := Lib.hid (fun w => pvalid_any c d w)
  generalize pvd a b = X at *
  generalize pvd c d = Y at *
  have B := Below.refl w.heap.size w
  go_enter Try.func11, Try.ntmps11
  obtain ⟨t0, t1, t2, t3, t4, t5, t6, t7, tl⟩ := id T
  go_wp2_with fail
  refine wp_loop_rounds 3 ?_
  rw [rounds_succ]
  go_wp2_with fail
  clear t0 t1 t2 t3 t4 t5 t6 t7 tl
  refine (H1.out _).mono ?_
  rintro e w1 ⟨rfl, hb⟩
  replace B := thn (below_alloc1 w _) hb
  replace T := (T.alc (.cells #[.int .i64 a, .int .i64 b] 23)).next hb
  clear hb
  cases X
  · go_wp2
    go_ret
    exact ⟨rfl, B⟩
  · obtain ⟨t0, t1, t2, t3, t4, t5, t6, t7, tl⟩ := id T
    go_wp2_with fail
    rw [rounds_succ]
    go_wp2_with fail
    clear t0 t1 t2 t3 t4 t5 t6 t7 tl
    refine (H2.out _).mono ?_
    rintro e w2 ⟨rfl, hb⟩
    replace B := thn (alc B (.cells #[.int .i64 c, .int .i64 d] 23)) hb
    clear hb
    cases Y
    · go_wp2
      go_ret
      exact ⟨rfl, B⟩
    · go_wp2_with fail
      rw [rounds_succ]
      go_wp2
      go_ret
      exact ⟨rfl, B⟩
set_option maxHeartbeats 8000000 in
theorem ldist_a (a b c d : Int) (w : World) (h : (pvd a b && pvd c d) = false) :
    Calls Try.prog 8 #[ptV a b, ptV c d] w fun e w' => e = .returned (.int .i64 0) ∧ Below w.heap.size w w' := by
  have HV := Lib.hid h
  clear h
  go_enter Try.func8, Try.ntmps8
  go_wp2_with fail
  have T := c4_new ((w.alloc (.cells #[.int .i64 a, .int .i64 b] 23)).alloc (.cells #[.int .i64 c, .int .i64 d] 23)) (.int .i64 a) (.int .i64 b) (.int .i64 c) (.int .i64 d) 23
  rw [show ((w.alloc (.cells #[.int .i64 a, .int .i64 b] 23)).alloc (.cells #[.int .i64 c, .int .i64 d] 23)).heap.size = w.heap.size + 1 + 1 by simp] at T
  refine (lvalid_any _ _ _ _ _ _ T).mono ?_
  rintro e w1 ⟨rfl, hb⟩
  rw [HV.out]
  have B := thn (below_alloc3 w _ _ _) hb
  go_wp2
  go_ret
  exact ⟨rfl, B⟩
set_option maxHeartbeats 8000000 in
theorem ldist_b (a b c d : Int) (w : World) (h : (pvd a b && pvd c d) = true) :
    Calls Try.prog 8 #[ptV a b, ptV c d] w fun e w' => e = .returned (.int .i64 (isq (sqd a b c d))) ∧ Below w.heap.size w w' := by
  have ⟨v1, v2⟩ := Bool.and_eq_true_iff.1 h
  have ⟨p1, p2⟩ := pvd_of v1
  have ⟨q1, q2⟩ := pvd_of v2
  have HV := Lib.hid h
  have m0 := sq_bh (a := c - a) (c := c - a) (by omega) (by omega) (by omega) (by omega)
  have m1 := sq_bh (a := d - b) (c := d - b) (by omega) (by omega) (by omega) (by omega)
  have n0 := mul_nnsq (c - a)
  have n1 := mul_nnsq (d - b)
  have HW := Lib.hid (fun w => vector_any a b c d w v1 v2)
  have HT := Lib.hid (fun w => ldot_any (c - a) (d - b) (c - a) (d - b) w (by omega) (by omega) (by omega) (by omega))
  have HS := Lib.hid (fun w => sqrt_any ((c - a) * (c - a) + (d - b) * (d - b)) w (by omega) (by omega))
  have HQ := Lib.hid (show isq (sqd a b c d) = isq ((c - a) * (c - a) + (d - b) * (d - b)) from rfl)
  generalize isq ((c - a) * (c - a) + (d - b) * (d - b)) = N at *
  generalize (c - a) * (c - a) + (d - b) * (d - b) = M at *
  generalize c - a = X at *
  generalize d - b = Y at *
  clear h v1 v2 m0 m1 n0 n1
  go_enter Try.func8, Try.ntmps8
  go_wp2_with fail
  have T := c4_new ((w.alloc (.cells #[.int .i64 a, .int .i64 b] 23)).alloc (.cells #[.int .i64 c, .int .i64 d] 23)) (.int .i64 a) (.int .i64 b) (.int .i64 c) (.int .i64 d) 23
  rw [show ((w.alloc (.cells #[.int .i64 a, .int .i64 b] 23)).alloc (.cells #[.int .i64 c, .int .i64 d] 23)).heap.size = w.heap.size + 1 + 1 by simp] at T
  refine (lvalid_any _ _ _ _ _ _ T).mono ?_
  rintro e w1 ⟨rfl, hb⟩
  rw [HV.out]
  have B := thn (below_alloc3 w _ _ _) hb
  have A1 := (((c2_new w (.int .i64 a) (.int .i64 b) 23).alc _).alc _).next hb
  have A2 := ((c2_new _ (.int .i64 c) (.int .i64 d) 23).alc _).next hb
  simp only [World.alloc, Array.size_push] at A2
  clear hb T
  obtain ⟨a0, a1, a2_, a3, al⟩ := id A1
  obtain ⟨b0, b1, b2, b3, bl⟩ := id A2
  go_wp2_with fail
  clear a0 a1 a2_ a3 al b0 b1 b2 b3 bl A1 A2
  refine (HW.out _).mono ?_
  rintro e w2 ⟨rfl, hb⟩
  replace B := alc (thn B hb) (.cells #[.int .i64 X, .int .i64 Y] 23)
  have D := c2_new w2 (.int .i64 X) (.int .i64 Y) 23
  clear hb
  obtain ⟨d0, d1, d2, d3, dl⟩ := id D
  go_wp2_with fail
  clear d0 d1 d2 d3 dl D
  refine (HT.out _).mono ?_
  rintro e w3 ⟨rfl, hb⟩
  replace B := thn B hb
  clear hb
  go_wp2_with fail
  refine (HS.out _).mono ?_
  rintro e w' ⟨rfl, rfl⟩
  go_wp2
  go_ret
  exact ⟨ret_i64h HQ.out.symm, B⟩
theorem ldist_any (a b c d : Int) (w : World) :
    Calls Try.prog 8 #[ptV a b, ptV c d] w fun e w' => e = .returned (.int .i64 (dst2 a b c d)) ∧ Below w.heap.size w w' := by
  unfold dst2
  cases h : pvd a b && pvd c d
  · exact ldist_a a b c d w h
  · exact ldist_b a b c d w h
end Go.Proofs.Ytpgpdglmgpjhlaa
