/- Elements: lines and arcs, both sides. -/
import Derived.Test.YtgabdnabcpdinaaHldC
import Derived.Deep.RegionHeld3
namespace Go.Proofs.Ytgabdnabcpdinaa
open Go.RowKit Go.Joins Fdk
set_option linter.unusedVariables false
abbrev elV (cu : Bool) (ax ay bx b_ cx cy r f s l n : Int) (g : Bool) : Value := .agg #[.bool cu, .int .i64 ax, .int .i64 ay, .int .i64 bx, .int .i64 b_, .int .i64 cx, .int .i64 cy, .int .i64 r, .int .i64 f, .int .i64 s, .int .i64 l, .int .i64 n, .bool g]
set_option maxHeartbeats 8000000 in
theorem rvalid3_a (a b c d : Int) (w : World) (h : pvd a b = false) :
    Calls Try.prog 61 #[ptV a b, ptV c d, ptV c d] w fun e w' => e = .returned (.bool false) ∧ Below w.heap.size w w' := by
  have HV := Lib.hid h
  clear h
  go_enter Try.func61, Try.ntmps61
  go_wp2_with fail
  refine (rpvalid_any _ _ _).mono ?_
  rintro e w1 ⟨rfl, hb⟩
  rw [HV.out]
  have B := thn (below_alloc3 w _ _ _) hb
  go_wp2
  go_ret
  exact ⟨rfl, B⟩
set_option maxHeartbeats 8000000 in
theorem rvalid3_b (a b c d : Int) (w : World) (h : pvd a b = true) :
    Calls Try.prog 61 #[ptV a b, ptV c d, ptV c d] w fun e w' => e = .returned (.bool (pvd c d)) ∧ Below w.heap.size w w' := by
  have HV := Lib.hid h
  have HW := Lib.hid (fun w => rpvalid_any c d w)
  clear h
  generalize pvd c d = Y at *
  go_enter Try.func61, Try.ntmps61
  go_wp2_with fail
  refine (rpvalid_any _ _ _).mono ?_
  rintro e w1 ⟨rfl, hb⟩
  rw [HV.out]
  have B := thn (below_alloc3 w _ _ _) hb
  have U := ((c2_new (w.alloc (.cells #[.int .i64 a, .int .i64 b] 30)) (.int .i64 c) (.int .i64 d) 30).alc (.cells #[.int .i64 c, .int .i64 d] 30)).next hb
  have V := (c2_new ((w.alloc (.cells #[.int .i64 a, .int .i64 b] 30)).alloc (.cells #[.int .i64 c, .int .i64 d] 30)) (.int .i64 c) (.int .i64 d) 30).next hb
  simp only [World.alloc, Array.size_push] at U V
  clear hb
  obtain ⟨u0, u1, u2, u3, ul⟩ := id U
  go_wp2_with fail
  clear u0 u1 u2 u3 ul
  refine (HW.out _).mono ?_
  rintro e w2 ⟨rfl, hb⟩
  replace B := thn B hb
  replace V := V.next hb
  clear hb
  cases Y
  · go_wp2
    go_ret
    exact ⟨rfl, B⟩
  · obtain ⟨v0, v1, v2, v3, vl⟩ := id V
    go_wp2_with fail
    clear v0 v1 v2 v3 vl
    refine (HW.out _).mono ?_
    rintro e w3 ⟨rfl, hb⟩
    replace B := thn B hb
    go_wp2
    go_ret
    exact ⟨rfl, B⟩
theorem rvalid3_any (a b c d : Int) (w : World) :
    Calls Try.prog 61 #[ptV a b, ptV c d, ptV c d] w fun e w' => e = .returned (.bool (pvd a b && pvd c d)) ∧ Below w.heap.size w w' := by
  cases h : pvd a b
  · exact rvalid3_a a b c d w h
  · exact rvalid3_b a b c d w h
set_option maxHeartbeats 4000000 in
theorem rdot_any' (a b c d : Int) (w : World) (h1 : -2000000 ≤ a ∧ a ≤ 2000000) (h2 : -2000000 ≤ b ∧ b ≤ 2000000) (h3 : -2000000 ≤ c ∧ c ≤ 2000000) (h4 : -2000000 ≤ d ∧ d ≤ 2000000) :
    Calls Try.prog 63 #[ptV a b, ptV c d, ptV a b, ptV c d] w fun e w' => e = .returned (.int .i64 (sqd a b c d)) ∧ Below w.heap.size w w' := by
  unfold sqd
  have m0 := sq_bh (a := c - a) (c := c - a) (by omega) (by omega) (by omega) (by omega)
  have m1 := sq_bh (a := d - b) (c := d - b) (by omega) (by omega) (by omega) (by omega)
  have e0 : IntKind.i64.wrap (c - a) = c - a := IntWalk.i64_in _ (by omega)
  have e1 : IntKind.i64.wrap (d - b) = d - b := IntWalk.i64_in _ (by omega)
  have e2 : IntKind.i64.wrap ((c - a) * (c - a)) = (c - a) * (c - a) := IntWalk.i64_in _ (by omega)
  have e3 : IntKind.i64.wrap ((d - b) * (d - b)) = (d - b) * (d - b) := IntWalk.i64_in _ (by omega)
  have e4 : IntKind.i64.wrap ((c - a) * (c - a) + (d - b) * (d - b)) = (c - a) * (c - a) + (d - b) * (d - b) := IntWalk.i64_in _ (by omega)
  clear h1 h2 h3 h4 m0 m1
  go_enter Try.func63, Try.ntmps63
  go_wp2
  go_ret
  exact ⟨rfl, by go_grown⟩
set_option maxHeartbeats 8000000 in
theorem rdist2_a (a b c d : Int) (w : World) (h : (pvd a b && pvd c d) = false) :
    Calls Try.prog 44 #[ptV a b, ptV c d] w fun e w' => e = .returned (.int .i64 0) ∧ Below w.heap.size w w' := by
  have HV := Lib.hid h
  clear h
  go_enter Try.func44, Try.ntmps44
  go_wp2_with fail
  refine (rvalid3_any _ _ _ _ _).mono ?_
  rintro e w1 ⟨rfl, hb⟩
  rw [HV.out]
  have B := thn (below_alloc2 w _ _) hb
  go_wp2
  go_ret
  exact ⟨rfl, B⟩
set_option maxHeartbeats 8000000 in
theorem rdist2_b (a b c d : Int) (w : World) (h : (pvd a b && pvd c d) = true) :
    Calls Try.prog 44 #[ptV a b, ptV c d] w fun e w' => e = .returned (.int .i64 (isq (sqd a b c d))) ∧ Below w.heap.size w w' := by
  have ⟨v1, v2⟩ := Bool.and_eq_true_iff.1 h
  have ⟨p1, p2⟩ := pvd_of v1
  have ⟨q1, q2⟩ := pvd_of v2
  have HV := Lib.hid h
  have m0 := sq_bh (a := c - a) (c := c - a) (by omega) (by omega) (by omega) (by omega)
  have m1 := sq_bh (a := d - b) (c := d - b) (by omega) (by omega) (by omega) (by omega)
  have n0 := mul_nnsq (c - a)
  have n1 := mul_nnsq (d - b)
  have HT := Lib.hid (fun w => rdot_any' a b c d w p1 p2 q1 q2)
  have HS := Lib.hid (fun w => rsqrt_any (sqd a b c d) w (by unfold sqd; omega) (by unfold sqd; omega))
  generalize isq (sqd a b c d) = N at *
  generalize sqd a b c d = M at *
  clear h v1 v2 m0 m1 n0 n1
  go_enter Try.func44, Try.ntmps44
  go_wp2_with fail
  refine (rvalid3_any _ _ _ _ _).mono ?_
  rintro e w1 ⟨rfl, hb⟩
  rw [HV.out]
  have B := thn (below_alloc2 w _ _) hb
  have A1 := ((c2_new w (.int .i64 a) (.int .i64 b) 30).alc (.cells #[.int .i64 c, .int .i64 d] 30)).next hb
  have A2 := (c2_new (w.alloc (.cells #[.int .i64 a, .int .i64 b] 30)) (.int .i64 c) (.int .i64 d) 30).next hb
  simp only [World.alloc, Array.size_push] at A2
  clear hb
  obtain ⟨a0, a1, a2_, a3, al⟩ := id A1
  obtain ⟨b0, b1, b2, b3, bl⟩ := id A2
  go_wp2_with fail
  clear a0 a1 a2_ a3 al b0 b1 b2 b3 bl A1 A2
  refine (HT.out _).mono ?_
  rintro e w3 ⟨rfl, hb⟩
  replace B := thn B hb
  clear hb
  go_wp2_with fail
  refine (HS.out _).mono ?_
  rintro e w' ⟨rfl, rfl⟩
  go_wp2
  go_ret
  exact ⟨rfl, B⟩
theorem rdist2_any (a b c d : Int) (w : World) :
    Calls Try.prog 44 #[ptV a b, ptV c d] w fun e w' => e = .returned (.int .i64 (dst2 a b c d)) ∧ Below w.heap.size w w' := by
  unfold dst2
  cases h : pvd a b && pvd c d
  · exact rdist2_a a b c d w h
  · exact rdist2_b a b c d w h

theorem o13 {w : World} {c b i : Nat} {y : Value} (h : c ≠ b) {y0 y1 y2 y3 y4 y5 y6 y7 y8 y9 y10 y11 y12 : Value} (k : w.cell? ⟨b, i, none⟩ = some y) : (((((((((((((w.setCell ⟨c, 0, none⟩ y0).setCell ⟨c, 1, none⟩ y1).setCell ⟨c, 2, none⟩ y2).setCell ⟨c, 3, none⟩ y3).setCell ⟨c, 4, none⟩ y4).setCell ⟨c, 5, none⟩ y5).setCell ⟨c, 6, none⟩ y6).setCell ⟨c, 7, none⟩ y7).setCell ⟨c, 8, none⟩ y8).setCell ⟨c, 9, none⟩ y9).setCell ⟨c, 10, none⟩ y10).setCell ⟨c, 11, none⟩ y11).setCell ⟨c, 12, none⟩ y12).cell? ⟨b, i, none⟩ = some y := by
  repeat rw [cother (fun e => h (congrArg Addr.block e))]
  exact k
set_option maxRecDepth 4000 in
set_option maxHeartbeats 8000000 in
theorem straight_any (a b c d : Int) (w : World) :
    Calls Try.prog 25 #[ptV a b, ptV c d] w fun e w' => e = .returned (elV false a b c d 0 0 0 0 0 (dst2 a b c d) 0 false) ∧ Below w.heap.size w w' := by
  have HD := Lib.hid (fun w => ldist_any a b c d w)
  generalize dst2 a b c d = L at *
  go_enter Try.func25, Try.ntmps25
  go_wp2_with fail
  have T := ((c2_new w (.int .i64 a) (.int .i64 b) 30).alc (.cells #[.int .i64 c, .int .i64 d] 30)).alc (.cells #[.bool false, .int .i64 0, .int .i64 0, .int .i64 0, .int .i64 0, .int .i64 0, .int .i64 0, .int .i64 0, .int .i64 0, .int .i64 0, .int .i64 0, .int .i64 0, .bool false] 43)
  have U := (c2_new (w.alloc (.cells #[.int .i64 a, .int .i64 b] 30)) (.int .i64 c) (.int .i64 d) 30).alc (.cells #[.bool false, .int .i64 0, .int .i64 0, .int .i64 0, .int .i64 0, .int .i64 0, .int .i64 0, .int .i64 0, .int .i64 0, .int .i64 0, .int .i64 0, .int .i64 0, .bool false] 43)
  have Z := c13_new ((w.alloc (.cells #[.int .i64 a, .int .i64 b] 30)).alloc (.cells #[.int .i64 c, .int .i64 d] 30)) (.bool false) (.int .i64 0) (.int .i64 0) (.int .i64 0) (.int .i64 0) (.int .i64 0) (.int .i64 0) (.int .i64 0) (.int .i64 0) (.int .i64 0) (.int .i64 0) (.int .i64 0) (.bool false) 43
  have B := below_alloc3 w (.cells #[.int .i64 a, .int .i64 b] 30) (.cells #[.int .i64 c, .int .i64 d] 30) (.cells #[.bool false, .int .i64 0, .int .i64 0, .int .i64 0, .int .i64 0, .int .i64 0, .int .i64 0, .int .i64 0, .int .i64 0, .int .i64 0, .int .i64 0, .int .i64 0, .bool false] 43)
  rw [show (w.alloc (.cells #[.int .i64 a, .int .i64 b] 30)).heap.size = w.heap.size + 1 by simp] at U
  rw [show ((w.alloc (.cells #[.int .i64 a, .int .i64 b] 30)).alloc (.cells #[.int .i64 c, .int .i64 d] 30)).heap.size = w.heap.size + 1 + 1 by simp] at Z
  generalize ((w.alloc (.cells #[.int .i64 a, .int .i64 b] 30)).alloc (.cells #[.int .i64 c, .int .i64 d] 30)).alloc (.cells #[.bool false, .int .i64 0, .int .i64 0, .int .i64 0, .int .i64 0, .int .i64 0, .int .i64 0, .int .i64 0, .int .i64 0, .int .i64 0, .int .i64 0, .int .i64 0, .bool false] 43) = w1 at T U Z B ⊢
  have t0 := T.c0
  have t1 := T.c1
  have u0 := U.c0
  have u1 := U.c1
  go_region_held (fun w' => w'.cell? ⟨w.heap.size, 0, none⟩ = some (.int .i64 a) ∧ w'.cell? ⟨w.heap.size, 1, none⟩ = some (.int .i64 b) ∧ w'.cell? ⟨w.heap.size + 1, 0, none⟩ = some (.int .i64 c) ∧ w'.cell? ⟨w.heap.size + 1, 1, none⟩ = some (.int .i64 d)) (first | with_reducible exact hS4 | with_reducible exact ⟨o13 (by omega) hS4.1, o13 (by omega) hS4.2.1, o13 (by omega) hS4.2.2.1, o13 (by omega) hS4.2.2.2⟩ | go_keep)
    (first | (go_at_call 42; refine (HD.out _).mono ?_; rintro e w4 ⟨rfl, hb4⟩; have hS4 : w4.cell? ⟨w.heap.size, 0, none⟩ = some (.int .i64 a) ∧ w4.cell? ⟨w.heap.size, 1, none⟩ = some (.int .i64 b) ∧ w4.cell? ⟨w.heap.size + 1, 0, none⟩ = some (.int .i64 c) ∧ w4.cell? ⟨w.heap.size + 1, 1, none⟩ = some (.int .i64 d) := ⟨(T.drew.next hb4).c0, (T.drew.next hb4).c1, (U.drew.next hb4).c0, (U.drew.next hb4).c1⟩; have Z4 := Z.drew.next hb4; have B4 := thn B.drew hb4; clear Z T U B hb4 t0 t1 u0 u1; obtain ⟨z0, z1, z2, z3, z4, z5, z6, z7, z8, z9, z10, z11, z12, f0, f1, f2, f3, f4, f5, f6, f7, f8, f9, f10, f11, f12, l⟩ := id Z4))
  clear z0 z1 z2 z3 z4 z5 z6 z7 z8 z9 z10 z11 z12 f0 f1 f2 f3 f4 f5 f6 f7 f8 f9 f10 f11 f12 l hS4
  have Z5 := Z4.put (.bool false) (.int .i64 a) (.int .i64 b) (.int .i64 c) (.int .i64 d) (.int .i64 0) (.int .i64 0) (.int .i64 0) (.int .i64 0) (.int .i64 0) (.int .i64 L) (.int .i64 0) (.bool false)
  have B5 := below_put13 B4 (b := w.heap.size + 1 + 1) (Nat.le_succ_of_le (Nat.le_succ _)) (.bool false) (.int .i64 a) (.int .i64 b) (.int .i64 c) (.int .i64 d) (.int .i64 0) (.int .i64 0) (.int .i64 0) (.int .i64 0) (.int .i64 0) (.int .i64 L) (.int .i64 0) (.bool false)
  clear Z4 B4
  generalize (((((((((((((w4.setCell ⟨w.heap.size + 1 + 1, 0, none⟩ (.bool false)).setCell ⟨w.heap.size + 1 + 1, 1, none⟩ (.int .i64 a)).setCell ⟨w.heap.size + 1 + 1, 2, none⟩ (.int .i64 b)).setCell ⟨w.heap.size + 1 + 1, 3, none⟩ (.int .i64 c)).setCell ⟨w.heap.size + 1 + 1, 4, none⟩ (.int .i64 d)).setCell ⟨w.heap.size + 1 + 1, 5, none⟩ (.int .i64 0)).setCell ⟨w.heap.size + 1 + 1, 6, none⟩ (.int .i64 0)).setCell ⟨w.heap.size + 1 + 1, 7, none⟩ (.int .i64 0)).setCell ⟨w.heap.size + 1 + 1, 8, none⟩ (.int .i64 0)).setCell ⟨w.heap.size + 1 + 1, 9, none⟩ (.int .i64 0)).setCell ⟨w.heap.size + 1 + 1, 10, none⟩ (.int .i64 L)).setCell ⟨w.heap.size + 1 + 1, 11, none⟩ (.int .i64 0)).setCell ⟨w.heap.size + 1 + 1, 12, none⟩ (.bool false)) = w5 at Z5 B5 ⊢
  go_wp2
  obtain ⟨z0, z1, z2, z3, z4, z5, z6, z7, z8, z9, z10, z11, z12, f0, f1, f2, f3, f4, f5, f6, f7, f8, f9, f10, f11, f12, l⟩ := Z5
  exact bodyPost_ret (v := elV false a b c d 0 0 0 0 0 L 0 false) (by simp [results, Try.results25, go_sem, z0, z1, z2, z3, z4, z5, z6, z7, z8, z9, z10, z11, z12]) rfl ⟨rfl, B5⟩
set_option maxRecDepth 4000 in
set_option maxHeartbeats 8000000 in
theorem rline_any (a b c d : Int) (w : World) :
    Calls Try.prog 28 #[ptV a b, ptV c d] w fun e w' => e = .returned (elV false a b c d 0 0 0 0 0 (dst2 a b c d) 0 false) ∧ Below w.heap.size w w' := by
  have HD := Lib.hid (fun w => rdist2_any a b c d w)
  generalize dst2 a b c d = L at *
  go_enter Try.func28, Try.ntmps28
  go_wp2_with fail
  have T := ((c2_new w (.int .i64 a) (.int .i64 b) 30).alc (.cells #[.int .i64 c, .int .i64 d] 30)).alc (.cells #[.bool false, .int .i64 0, .int .i64 0, .int .i64 0, .int .i64 0, .int .i64 0, .int .i64 0, .int .i64 0, .int .i64 0, .int .i64 0, .int .i64 0, .int .i64 0, .bool false] 43)
  have U := (c2_new (w.alloc (.cells #[.int .i64 a, .int .i64 b] 30)) (.int .i64 c) (.int .i64 d) 30).alc (.cells #[.bool false, .int .i64 0, .int .i64 0, .int .i64 0, .int .i64 0, .int .i64 0, .int .i64 0, .int .i64 0, .int .i64 0, .int .i64 0, .int .i64 0, .int .i64 0, .bool false] 43)
  have Z := c13_new ((w.alloc (.cells #[.int .i64 a, .int .i64 b] 30)).alloc (.cells #[.int .i64 c, .int .i64 d] 30)) (.bool false) (.int .i64 0) (.int .i64 0) (.int .i64 0) (.int .i64 0) (.int .i64 0) (.int .i64 0) (.int .i64 0) (.int .i64 0) (.int .i64 0) (.int .i64 0) (.int .i64 0) (.bool false) 43
  have B := below_alloc3 w (.cells #[.int .i64 a, .int .i64 b] 30) (.cells #[.int .i64 c, .int .i64 d] 30) (.cells #[.bool false, .int .i64 0, .int .i64 0, .int .i64 0, .int .i64 0, .int .i64 0, .int .i64 0, .int .i64 0, .int .i64 0, .int .i64 0, .int .i64 0, .int .i64 0, .bool false] 43)
  rw [show (w.alloc (.cells #[.int .i64 a, .int .i64 b] 30)).heap.size = w.heap.size + 1 by simp] at U
  rw [show ((w.alloc (.cells #[.int .i64 a, .int .i64 b] 30)).alloc (.cells #[.int .i64 c, .int .i64 d] 30)).heap.size = w.heap.size + 1 + 1 by simp] at Z
  generalize ((w.alloc (.cells #[.int .i64 a, .int .i64 b] 30)).alloc (.cells #[.int .i64 c, .int .i64 d] 30)).alloc (.cells #[.bool false, .int .i64 0, .int .i64 0, .int .i64 0, .int .i64 0, .int .i64 0, .int .i64 0, .int .i64 0, .int .i64 0, .int .i64 0, .int .i64 0, .int .i64 0, .bool false] 43) = w1 at T U Z B ⊢
  have t0 := T.c0
  have t1 := T.c1
  have u0 := U.c0
  have u1 := U.c1
  go_region_held (fun w' => w'.cell? ⟨w.heap.size, 0, none⟩ = some (.int .i64 a) ∧ w'.cell? ⟨w.heap.size, 1, none⟩ = some (.int .i64 b) ∧ w'.cell? ⟨w.heap.size + 1, 0, none⟩ = some (.int .i64 c) ∧ w'.cell? ⟨w.heap.size + 1, 1, none⟩ = some (.int .i64 d)) (first | with_reducible exact hS4 | with_reducible exact ⟨o13 (by omega) hS4.1, o13 (by omega) hS4.2.1, o13 (by omega) hS4.2.2.1, o13 (by omega) hS4.2.2.2⟩ | go_keep)
    (first | (go_at_call 44; refine (HD.out _).mono ?_; rintro e w4 ⟨rfl, hb4⟩; have hS4 : w4.cell? ⟨w.heap.size, 0, none⟩ = some (.int .i64 a) ∧ w4.cell? ⟨w.heap.size, 1, none⟩ = some (.int .i64 b) ∧ w4.cell? ⟨w.heap.size + 1, 0, none⟩ = some (.int .i64 c) ∧ w4.cell? ⟨w.heap.size + 1, 1, none⟩ = some (.int .i64 d) := ⟨(T.drew.next hb4).c0, (T.drew.next hb4).c1, (U.drew.next hb4).c0, (U.drew.next hb4).c1⟩; have Z4 := Z.drew.next hb4; have B4 := thn B.drew hb4; clear Z T U B hb4 t0 t1 u0 u1; obtain ⟨z0, z1, z2, z3, z4, z5, z6, z7, z8, z9, z10, z11, z12, f0, f1, f2, f3, f4, f5, f6, f7, f8, f9, f10, f11, f12, l⟩ := id Z4))
  clear z0 z1 z2 z3 z4 z5 z6 z7 z8 z9 z10 z11 z12 f0 f1 f2 f3 f4 f5 f6 f7 f8 f9 f10 f11 f12 l hS4
  have Z5 := Z4.put (.bool false) (.int .i64 a) (.int .i64 b) (.int .i64 c) (.int .i64 d) (.int .i64 0) (.int .i64 0) (.int .i64 0) (.int .i64 0) (.int .i64 0) (.int .i64 L) (.int .i64 0) (.bool false)
  have B5 := below_put13 B4 (b := w.heap.size + 1 + 1) (Nat.le_succ_of_le (Nat.le_succ _)) (.bool false) (.int .i64 a) (.int .i64 b) (.int .i64 c) (.int .i64 d) (.int .i64 0) (.int .i64 0) (.int .i64 0) (.int .i64 0) (.int .i64 0) (.int .i64 L) (.int .i64 0) (.bool false)
  clear Z4 B4
  generalize (((((((((((((w4.setCell ⟨w.heap.size + 1 + 1, 0, none⟩ (.bool false)).setCell ⟨w.heap.size + 1 + 1, 1, none⟩ (.int .i64 a)).setCell ⟨w.heap.size + 1 + 1, 2, none⟩ (.int .i64 b)).setCell ⟨w.heap.size + 1 + 1, 3, none⟩ (.int .i64 c)).setCell ⟨w.heap.size + 1 + 1, 4, none⟩ (.int .i64 d)).setCell ⟨w.heap.size + 1 + 1, 5, none⟩ (.int .i64 0)).setCell ⟨w.heap.size + 1 + 1, 6, none⟩ (.int .i64 0)).setCell ⟨w.heap.size + 1 + 1, 7, none⟩ (.int .i64 0)).setCell ⟨w.heap.size + 1 + 1, 8, none⟩ (.int .i64 0)).setCell ⟨w.heap.size + 1 + 1, 9, none⟩ (.int .i64 0)).setCell ⟨w.heap.size + 1 + 1, 10, none⟩ (.int .i64 L)).setCell ⟨w.heap.size + 1 + 1, 11, none⟩ (.int .i64 0)).setCell ⟨w.heap.size + 1 + 1, 12, none⟩ (.bool false)) = w5 at Z5 B5 ⊢
  go_wp2
  obtain ⟨z0, z1, z2, z3, z4, z5, z6, z7, z8, z9, z10, z11, z12, f0, f1, f2, f3, f4, f5, f6, f7, f8, f9, f10, f11, f12, l⟩ := Z5
  exact bodyPost_ret (v := elV false a b c d 0 0 0 0 0 L 0 false) (by simp [results, Try.results28, go_sem, z0, z1, z2, z3, z4, z5, z6, z7, z8, z9, z10, z11, z12]) rfl ⟨rfl, B5⟩
end Go.Proofs.Ytgabdnabcpdinaa
