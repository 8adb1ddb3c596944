/- Boxes of chapter 45: merged, the reference. -/
import Derived.Test.YtfeoladkpgojpaaIner3
import Derived.Test.YtfeoladkpgojpaaQuot2
namespace Go.Proofs.Ytfeoladkpgojpaa
open Go.RowKit Go.Joins Fdk
set_option linter.unusedVariables false

theorem floor2_any (a : Int) (w : World) (h0 : -8000000 ≤ a) (h1 : a ≤ 8000000) :
    Calls Try.prog 49 #[.int .i64 a, .int .i64 2] w fun e w' => e = TwoI (a / 2) 0 ∧ w = w' := by
  have hq : Hid (Calls Try.prog 53 #[.int .i64 a, .int .i64 1, .int .i64 2, .int .i64 0] w fun e w' => e = TwoI (qdown (a * 1) 2) 0 ∧ w = w') := by
    by_cases hs : 0 ≤ a
    · exact Lib.hid (quot0_pp a 1 2 w (by omega) (by omega) (by omega) (by omega) (by omega) (by omega) (by unfold iabs; rw [if_neg (by omega), if_neg (by omega)]; omega) (lt_dec.1 hs) (lt_dec.1 (by omega)) (by unfold iabs; rw [if_neg (by omega), if_neg (by omega)]))
    · exact Lib.hid (quot0_np a 1 2 w (by omega) (by omega) (by omega) (by omega) (by omega) (by omega) (by unfold iabs; rw [if_pos (by omega), if_neg (by omega)]; omega) (lt_dec.2 (by omega)) (lt_dec.1 (by omega)) (by unfold iabs; rw [if_pos (by omega), if_neg (by omega)]; omega))
  have e1 : qdown (a * 1) 2 = a / 2 := by unfold qdown; rw [Int.mul_one]
  go_enter Try.func49, Try.ntmps49
  go_wp2_with fail
  refine hq.out.mono ?_
  rintro e w' ⟨rfl, rfl⟩
  rw [e1]
  go_wp2
  go_ret2
  exact ⟨rfl, rfl⟩
set_option maxHeartbeats 800000 in
theorem meet_any (a x b y : Int) (w : World) (h : Hid (OvB a x b y)) :
    Calls Try.prog 35 #[.int .i64 a, .int .i64 x, .int .i64 b, .int .i64 y] w fun e w' => e = Three (ovm a x b y) (ovw a x b y) (ovk a x b y) ∧ w = w' := by
  obtain ⟨⟨a0, a1⟩, ⟨x0, x1⟩, ⟨b0, b1⟩, y0, y1⟩ := h.out
  go_enter Try.func35, Try.ntmps35
  go_wp2_with (go_at_call 49; refine (floor2_any _ _ (by omega) (by omega)).mono ?_; rintro e w' ⟨rfl, rfl⟩)
  all_goals go_ret3
  all_goals first | exact ⟨thr (lo := a - x) (hi := a + x) (by unfold ovl; omega) (by unfold ovh; omega), rfl⟩ | exact ⟨thr (lo := a - x) (hi := b + y) (by unfold ovl; omega) (by unfold ovh; omega), rfl⟩ | exact ⟨thr (lo := b - y) (hi := a + x) (by unfold ovl; omega) (by unfold ovh; omega), rfl⟩ | exact ⟨thr (lo := b - y) (hi := b + y) (by unfold ovl; omega) (by unfold ovh; omega), rfl⟩

set_option maxHeartbeats 1600000 in
theorem rmerge_any0 (x y r s p q u v : Int) (w : World) (h1 : bv x y r s = false) (hh : Hid (mg x y r s p q u v = (0, 0, 0, 0, 1))) :
    Calls Try.prog 19 #[boxV x y r s, boxV p q u v] w fun e w' => e = Bx5 (mg x y r s p q u v) ∧ Below w.heap.size w w' := by
  go_enter Try.func19, Try.ntmps19
  go_wp2_with fail
  refine (rvalid_any _ _ _ _ _).mono ?_
  rintro e w1 ⟨rfl, hb⟩
  have B := thn (below_alloc3 w _ _ _) hb
  have TA := (((cell4_new w _ _ _ _ _).alc _).alc _).next hb
  have TB := ((cell4_new _ _ _ _ _ _).alc _).next hb
  have TZ := (cell4_new _ _ _ _ _ _).next hb
  simp only [World.alloc, Array.size_push] at TB TZ
  obtain ⟨c0, c1, c2, c3, f0, f1, f2, f3, l0⟩ := id TA
  obtain ⟨d0, d1, d2, d3, g0, g1, g2, g3, l1⟩ := id TB
  obtain ⟨z0, z1, z2, z3, y0, y1, y2, y3, l2⟩ := id TZ
  rw [h1]
  go_wp2
  have B6 := put4b B (p0 := ⟨w.heap.size + 1 + 1, 0, none⟩) (p1 := ⟨w.heap.size + 1 + 1, 1, none⟩) (p2 := ⟨w.heap.size + 1 + 1, 2, none⟩) (p3 := ⟨w.heap.size + 1 + 1, 3, none⟩) (by show w.heap.size ≤ w.heap.size + 1 + 1; omega) (by show w.heap.size ≤ w.heap.size + 1 + 1; omega) (by show w.heap.size ≤ w.heap.size + 1 + 1; omega) (by show w.heap.size ≤ w.heap.size + 1 + 1; omega) (.int .i64 0) (.int .i64 0) (.int .i64 0) (.int .i64 0)
  have TZ6 := (TZ).put (.int .i64 0) (.int .i64 0) (.int .i64 0) (.int .i64 0)
  generalize (((w1.setCell ⟨w.heap.size + 1 + 1, 0, none⟩ (.int .i64 0)).setCell ⟨w.heap.size + 1 + 1, 1, none⟩ (.int .i64 0)).setCell ⟨w.heap.size + 1 + 1, 2, none⟩ (.int .i64 0)).setCell ⟨w.heap.size + 1 + 1, 3, none⟩ (.int .i64 0) = w6 at B6 TZ6 ⊢
  obtain ⟨o0, o1, o2, o3, i0, i1, i2, i3, l9⟩ := TZ6
  refine bodyPost_ret (v := .tuple #[boxV 0 0 0 0, .int .i64 1]) (by simp [results, Try.results19, go_sem, o0, o1, o2, o3]) rfl ?_
  exact ⟨bx5 hh.out.symm, B6⟩
set_option maxHeartbeats 1600000 in
theorem rmerge_any1 (x y r s p q u v : Int) (w : World) (h1 : bv x y r s = true) (h2 : bv p q u v = false) (hh : Hid (mg x y r s p q u v = (0, 0, 0, 0, 1))) :
    Calls Try.prog 19 #[boxV x y r s, boxV p q u v] w fun e w' => e = Bx5 (mg x y r s p q u v) ∧ Below w.heap.size w w' := by
  go_enter Try.func19, Try.ntmps19
  go_wp2_with fail
  refine (rvalid_any _ _ _ _ _).mono ?_
  rintro e w1 ⟨rfl, hb⟩
  have B := thn (below_alloc3 w _ _ _) hb
  have TA := (((cell4_new w _ _ _ _ _).alc _).alc _).next hb
  have TB := ((cell4_new _ _ _ _ _ _).alc _).next hb
  have TZ := (cell4_new _ _ _ _ _ _).next hb
  simp only [World.alloc, Array.size_push] at TB TZ
  obtain ⟨c0, c1, c2, c3, f0, f1, f2, f3, l0⟩ := id TA
  obtain ⟨d0, d1, d2, d3, g0, g1, g2, g3, l1⟩ := id TB
  obtain ⟨z0, z1, z2, z3, y0, y1, y2, y3, l2⟩ := id TZ
  rw [h1]
  go_wp2_with fail
  refine (rvalid_any _ _ _ _ _).mono ?_
  rintro e w2 ⟨rfl, hb2⟩
  clear c0 c1 c2 c3 f0 f1 f2 f3 l0 d0 d1 d2 d3 g0 g1 g2 g3 l1 z0 z1 z2 z3 y0 y1 y2 y3 l2
  replace B := thn B hb2
  obtain ⟨c0, c1, c2, c3, f0, f1, f2, f3, l0⟩ := TA.next hb2
  obtain ⟨d0, d1, d2, d3, g0, g1, g2, g3, l1⟩ := TB.next hb2
  obtain ⟨z0, z1, z2, z3, y0, y1, y2, y3, l2⟩ := TZ.next hb2
  rw [h2]
  go_wp2
  have B6 := put4b B (p0 := ⟨w.heap.size + 1 + 1, 0, none⟩) (p1 := ⟨w.heap.size + 1 + 1, 1, none⟩) (p2 := ⟨w.heap.size + 1 + 1, 2, none⟩) (p3 := ⟨w.heap.size + 1 + 1, 3, none⟩) (by show w.heap.size ≤ w.heap.size + 1 + 1; omega) (by show w.heap.size ≤ w.heap.size + 1 + 1; omega) (by show w.heap.size ≤ w.heap.size + 1 + 1; omega) (by show w.heap.size ≤ w.heap.size + 1 + 1; omega) (.int .i64 0) (.int .i64 0) (.int .i64 0) (.int .i64 0)
  have TZ6 := (TZ.next hb2).put (.int .i64 0) (.int .i64 0) (.int .i64 0) (.int .i64 0)
  generalize (((w2.setCell ⟨w.heap.size + 1 + 1, 0, none⟩ (.int .i64 0)).setCell ⟨w.heap.size + 1 + 1, 1, none⟩ (.int .i64 0)).setCell ⟨w.heap.size + 1 + 1, 2, none⟩ (.int .i64 0)).setCell ⟨w.heap.size + 1 + 1, 3, none⟩ (.int .i64 0) = w6 at B6 TZ6 ⊢
  obtain ⟨o0, o1, o2, o3, i0, i1, i2, i3, l9⟩ := TZ6
  refine bodyPost_ret (v := .tuple #[boxV 0 0 0 0, .int .i64 1]) (by simp [results, Try.results19, go_sem, o0, o1, o2, o3]) rfl ?_
  exact ⟨bx5 hh.out.symm, B6⟩
set_option maxHeartbeats 1600000 in
theorem rmerge_any2 (x y r s p q u v : Int) (w : World) (h1 : bv x y r s = true) (h2 : bv p q u v = true) (h3 : ovk x r p u = false) (hh : Hid (mg x y r s p q u v = (0, 0, 0, 0, 11))) :
    Calls Try.prog 19 #[boxV x y r s, boxV p q u v] w fun e w' => e = Bx5 (mg x y r s p q u v) ∧ Below w.heap.size w w' := by
  obtain ⟨HX, HY⟩ := ovb_x h1 h2
  go_enter Try.func19, Try.ntmps19
  go_wp2_with fail
  refine (rvalid_any _ _ _ _ _).mono ?_
  rintro e w1 ⟨rfl, hb⟩
  have B := thn (below_alloc3 w _ _ _) hb
  have TA := (((cell4_new w _ _ _ _ _).alc _).alc _).next hb
  have TB := ((cell4_new _ _ _ _ _ _).alc _).next hb
  have TZ := (cell4_new _ _ _ _ _ _).next hb
  simp only [World.alloc, Array.size_push] at TB TZ
  obtain ⟨c0, c1, c2, c3, f0, f1, f2, f3, l0⟩ := id TA
  obtain ⟨d0, d1, d2, d3, g0, g1, g2, g3, l1⟩ := id TB
  obtain ⟨z0, z1, z2, z3, y0, y1, y2, y3, l2⟩ := id TZ
  rw [h1]
  go_wp2_with fail
  refine (rvalid_any _ _ _ _ _).mono ?_
  rintro e w2 ⟨rfl, hb2⟩
  clear c0 c1 c2 c3 f0 f1 f2 f3 l0 d0 d1 d2 d3 g0 g1 g2 g3 l1 z0 z1 z2 z3 y0 y1 y2 y3 l2
  replace B := thn B hb2
  obtain ⟨c0, c1, c2, c3, f0, f1, f2, f3, l0⟩ := TA.next hb2
  obtain ⟨d0, d1, d2, d3, g0, g1, g2, g3, l1⟩ := TB.next hb2
  obtain ⟨z0, z1, z2, z3, y0, y1, y2, y3, l2⟩ := TZ.next hb2
  rw [h2]
  go_wp2_with fail
  refine (meet_any _ _ _ _ _ HX).mono ?_
  rintro e w' ⟨rfl, rfl⟩
  go_wp2_with fail
  refine (meet_any _ _ _ _ _ HY).mono ?_
  rintro e w' ⟨rfl, rfl⟩
  clear c0 c1 c2 c3 f0 f1 f2 f3 l0 d0 d1 d2 d3 g0 g1 g2 g3 l1
  go_wp2
  have B6 := put4b B (p0 := ⟨w.heap.size + 1 + 1, 0, none⟩) (p1 := ⟨w.heap.size + 1 + 1, 1, none⟩) (p2 := ⟨w.heap.size + 1 + 1, 2, none⟩) (p3 := ⟨w.heap.size + 1 + 1, 3, none⟩) (by show w.heap.size ≤ w.heap.size + 1 + 1; omega) (by show w.heap.size ≤ w.heap.size + 1 + 1; omega) (by show w.heap.size ≤ w.heap.size + 1 + 1; omega) (by show w.heap.size ≤ w.heap.size + 1 + 1; omega) (.int .i64 0) (.int .i64 0) (.int .i64 0) (.int .i64 0)
  have TZ6 := (TZ.next hb2).put (.int .i64 0) (.int .i64 0) (.int .i64 0) (.int .i64 0)
  generalize (((w2.setCell ⟨w.heap.size + 1 + 1, 0, none⟩ (.int .i64 0)).setCell ⟨w.heap.size + 1 + 1, 1, none⟩ (.int .i64 0)).setCell ⟨w.heap.size + 1 + 1, 2, none⟩ (.int .i64 0)).setCell ⟨w.heap.size + 1 + 1, 3, none⟩ (.int .i64 0) = w6 at B6 TZ6 ⊢
  obtain ⟨o0, o1, o2, o3, i0, i1, i2, i3, l9⟩ := TZ6
  refine bodyPost_ret (v := .tuple #[boxV 0 0 0 0, .int .i64 11]) (by simp [results, Try.results19, go_sem, o0, o1, o2, o3]) rfl ?_
  exact ⟨bx5 hh.out.symm, B6⟩
set_option maxHeartbeats 1600000 in
theorem rmerge_any3 (x y r s p q u v : Int) (w : World) (h1 : bv x y r s = true) (h2 : bv p q u v = true) (h3 : ovk x r p u = true) (h4 : ovk y s q v = false) (hh : Hid (mg x y r s p q u v = (0, 0, 0, 0, 11))) :
    Calls Try.prog 19 #[boxV x y r s, boxV p q u v] w fun e w' => e = Bx5 (mg x y r s p q u v) ∧ Below w.heap.size w w' := by
  obtain ⟨HX, HY⟩ := ovb_x h1 h2
  go_enter Try.func19, Try.ntmps19
  go_wp2_with fail
  refine (rvalid_any _ _ _ _ _).mono ?_
  rintro e w1 ⟨rfl, hb⟩
  have B := thn (below_alloc3 w _ _ _) hb
  have TA := (((cell4_new w _ _ _ _ _).alc _).alc _).next hb
  have TB := ((cell4_new _ _ _ _ _ _).alc _).next hb
  have TZ := (cell4_new _ _ _ _ _ _).next hb
  simp only [World.alloc, Array.size_push] at TB TZ
  obtain ⟨c0, c1, c2, c3, f0, f1, f2, f3, l0⟩ := id TA
  obtain ⟨d0, d1, d2, d3, g0, g1, g2, g3, l1⟩ := id TB
  obtain ⟨z0, z1, z2, z3, y0, y1, y2, y3, l2⟩ := id TZ
  rw [h1]
  go_wp2_with fail
  refine (rvalid_any _ _ _ _ _).mono ?_
  rintro e w2 ⟨rfl, hb2⟩
  clear c0 c1 c2 c3 f0 f1 f2 f3 l0 d0 d1 d2 d3 g0 g1 g2 g3 l1 z0 z1 z2 z3 y0 y1 y2 y3 l2
  replace B := thn B hb2
  obtain ⟨c0, c1, c2, c3, f0, f1, f2, f3, l0⟩ := TA.next hb2
  obtain ⟨d0, d1, d2, d3, g0, g1, g2, g3, l1⟩ := TB.next hb2
  obtain ⟨z0, z1, z2, z3, y0, y1, y2, y3, l2⟩ := TZ.next hb2
  rw [h2]
  go_wp2_with fail
  refine (meet_any _ _ _ _ _ HX).mono ?_
  rintro e w' ⟨rfl, rfl⟩
  go_wp2_with fail
  refine (meet_any _ _ _ _ _ HY).mono ?_
  rintro e w' ⟨rfl, rfl⟩
  clear c0 c1 c2 c3 f0 f1 f2 f3 l0 d0 d1 d2 d3 g0 g1 g2 g3 l1
  go_wp2
  have B6 := put4b B (p0 := ⟨w.heap.size + 1 + 1, 0, none⟩) (p1 := ⟨w.heap.size + 1 + 1, 1, none⟩) (p2 := ⟨w.heap.size + 1 + 1, 2, none⟩) (p3 := ⟨w.heap.size + 1 + 1, 3, none⟩) (by show w.heap.size ≤ w.heap.size + 1 + 1; omega) (by show w.heap.size ≤ w.heap.size + 1 + 1; omega) (by show w.heap.size ≤ w.heap.size + 1 + 1; omega) (by show w.heap.size ≤ w.heap.size + 1 + 1; omega) (.int .i64 0) (.int .i64 0) (.int .i64 0) (.int .i64 0)
  have TZ6 := (TZ.next hb2).put (.int .i64 0) (.int .i64 0) (.int .i64 0) (.int .i64 0)
  generalize (((w2.setCell ⟨w.heap.size + 1 + 1, 0, none⟩ (.int .i64 0)).setCell ⟨w.heap.size + 1 + 1, 1, none⟩ (.int .i64 0)).setCell ⟨w.heap.size + 1 + 1, 2, none⟩ (.int .i64 0)).setCell ⟨w.heap.size + 1 + 1, 3, none⟩ (.int .i64 0) = w6 at B6 TZ6 ⊢
  obtain ⟨o0, o1, o2, o3, i0, i1, i2, i3, l9⟩ := TZ6
  refine bodyPost_ret (v := .tuple #[boxV 0 0 0 0, .int .i64 11]) (by simp [results, Try.results19, go_sem, o0, o1, o2, o3]) rfl ?_
  exact ⟨bx5 hh.out.symm, B6⟩
set_option maxHeartbeats 1600000 in
theorem rmerge_any4 (x y r s p q u v : Int) (w : World) (h1 : bv x y r s = true) (h2 : bv p q u v = true) (h3 : ovk x r p u = true) (h4 : ovk y s q v = true) (hh : Hid (mg x y r s p q u v = (ovm x r p u, ovm y s q v, ovw x r p u, ovw y s q v, 0))) :
    Calls Try.prog 19 #[boxV x y r s, boxV p q u v] w fun e w' => e = Bx5 (mg x y r s p q u v) ∧ Below w.heap.size w w' := by
  obtain ⟨HX, HY⟩ := ovb_x h1 h2
  go_enter Try.func19, Try.ntmps19
  go_wp2_with fail
  refine (rvalid_any _ _ _ _ _).mono ?_
  rintro e w1 ⟨rfl, hb⟩
  have B := thn (below_alloc3 w _ _ _) hb
  have TA := (((cell4_new w _ _ _ _ _).alc _).alc _).next hb
  have TB := ((cell4_new _ _ _ _ _ _).alc _).next hb
  have TZ := (cell4_new _ _ _ _ _ _).next hb
  simp only [World.alloc, Array.size_push] at TB TZ
  obtain ⟨c0, c1, c2, c3, f0, f1, f2, f3, l0⟩ := id TA
  obtain ⟨d0, d1, d2, d3, g0, g1, g2, g3, l1⟩ := id TB
  obtain ⟨z0, z1, z2, z3, y0, y1, y2, y3, l2⟩ := id TZ
  rw [h1]
  go_wp2_with fail
  refine (rvalid_any _ _ _ _ _).mono ?_
  rintro e w2 ⟨rfl, hb2⟩
  clear c0 c1 c2 c3 f0 f1 f2 f3 l0 d0 d1 d2 d3 g0 g1 g2 g3 l1 z0 z1 z2 z3 y0 y1 y2 y3 l2
  replace B := thn B hb2
  obtain ⟨c0, c1, c2, c3, f0, f1, f2, f3, l0⟩ := TA.next hb2
  obtain ⟨d0, d1, d2, d3, g0, g1, g2, g3, l1⟩ := TB.next hb2
  obtain ⟨z0, z1, z2, z3, y0, y1, y2, y3, l2⟩ := TZ.next hb2
  rw [h2]
  go_wp2_with fail
  refine (meet_any _ _ _ _ _ HX).mono ?_
  rintro e w' ⟨rfl, rfl⟩
  go_wp2_with fail
  refine (meet_any _ _ _ _ _ HY).mono ?_
  rintro e w' ⟨rfl, rfl⟩
  clear c0 c1 c2 c3 f0 f1 f2 f3 l0 d0 d1 d2 d3 g0 g1 g2 g3 l1
  go_wp2
  have B6 := put4b B (p0 := ⟨w.heap.size + 1 + 1, 0, none⟩) (p1 := ⟨w.heap.size + 1 + 1, 1, none⟩) (p2 := ⟨w.heap.size + 1 + 1, 2, none⟩) (p3 := ⟨w.heap.size + 1 + 1, 3, none⟩) (by show w.heap.size ≤ w.heap.size + 1 + 1; omega) (by show w.heap.size ≤ w.heap.size + 1 + 1; omega) (by show w.heap.size ≤ w.heap.size + 1 + 1; omega) (by show w.heap.size ≤ w.heap.size + 1 + 1; omega) (.int .i64 (ovm x r p u)) (.int .i64 (ovm y s q v)) (.int .i64 (ovw x r p u)) (.int .i64 (ovw y s q v))
  have TZ6 := (TZ.next hb2).put (.int .i64 (ovm x r p u)) (.int .i64 (ovm y s q v)) (.int .i64 (ovw x r p u)) (.int .i64 (ovw y s q v))
  generalize (((w2.setCell ⟨w.heap.size + 1 + 1, 0, none⟩ (.int .i64 (ovm x r p u))).setCell ⟨w.heap.size + 1 + 1, 1, none⟩ (.int .i64 (ovm y s q v))).setCell ⟨w.heap.size + 1 + 1, 2, none⟩ (.int .i64 (ovw x r p u))).setCell ⟨w.heap.size + 1 + 1, 3, none⟩ (.int .i64 (ovw y s q v)) = w6 at B6 TZ6 ⊢
  obtain ⟨o0, o1, o2, o3, i0, i1, i2, i3, l9⟩ := TZ6
  refine bodyPost_ret (v := .tuple #[boxV (ovm x r p u) (ovm y s q v) (ovw x r p u) (ovw y s q v), .int .i64 0]) (by simp [results, Try.results19, go_sem, o0, o1, o2, o3]) rfl ?_
  exact ⟨bx5 hh.out.symm, B6⟩
theorem rmerge_any (x y r s p q u v : Int) (w : World) :
    Calls Try.prog 19 #[boxV x y r s, boxV p q u v] w fun e w' => e = Bx5 (mg x y r s p q u v) ∧ Below w.heap.size w w' := by
  rcases mg_cases x y r s p q u v with ⟨h1, hh⟩ | ⟨h1, h2, hh⟩ | ⟨h1, h2, h3, hh⟩ | ⟨h1, h2, h3, h4, hh⟩ | ⟨h1, h2, h3, h4, hh⟩
  · exact rmerge_any0 x y r s p q u v w h1 hh
  · exact rmerge_any1 x y r s p q u v w h1 h2 hh
  · exact rmerge_any2 x y r s p q u v w h1 h2 h3 hh
  · exact rmerge_any3 x y r s p q u v w h1 h2 h3 h4 hh
  · exact rmerge_any4 x y r s p q u v w h1 h2 h3 h4 hh
end Go.Proofs.Ytfeoladkpgojpaa
