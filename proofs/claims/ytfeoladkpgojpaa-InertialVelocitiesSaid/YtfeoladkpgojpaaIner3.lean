/- Boxes of chapter 45: merged, package inertial. -/
import Derived.Test.YtfeoladkpgojpaaIner2
namespace Go.Proofs.Ytfeoladkpgojpaa
open Go.RowKit Go.Joins
set_option linter.unusedVariables false

def ovl (a x b y : Int) : Int := max (a - x) (b - y)
def ovh (a x b y : Int) : Int := min (a + x) (b + y)
def ovm (a x b y : Int) : Int := (ovl a x b y + ovh a x b y) / 2
def ovw (a x b y : Int) : Int := ovh a x b y - ovm a x b y
def ovk (a x b y : Int) : Bool := decide (ovl a x b y ≤ ovh a x b y)
def OvB (a x b y : Int) : Prop := (-2000000 ≤ a ∧ a ≤ 2000000) ∧ (0 ≤ x ∧ x ≤ 2000000) ∧ (-2000000 ≤ b ∧ b ≤ 2000000) ∧ 0 ≤ y ∧ y ≤ 2000000
theorem ovb_x {x y r s p q u v : Int} (h : bv x y r s = true) (k : bv p q u v = true) : Hid (OvB x r p u) ∧ Hid (OvB y s q v) := by
  obtain ⟨h1, h2, h3, h4⟩ := bv_of h
  obtain ⟨k1, k2, k3, k4⟩ := bv_of k
  exact ⟨Lib.hid ⟨h1, h3, k1, k3⟩, Lib.hid ⟨h2, h4, k2, k4⟩⟩
abbrev Three (m v : Int) (k : Bool) : Ending := .returned (.tuple #[.int .i64 m, .int .i64 v, .bool k])
theorem thr {a x b y lo hi : Int} (hl : ovl a x b y = lo) (hh : ovh a x b y = hi) : Three ((lo + hi) / 2) (hi - (lo + hi) / 2) (decide (lo ≤ hi)) = Three (ovm a x b y) (ovw a x b y) (ovk a x b y) := by
  unfold ovw ovm ovk; rw [hl, hh]
set_option maxHeartbeats 800000 in
theorem overlap_any (a x b y : Int) (w : World) (h : Hid (OvB a x b y)) :
    Calls Try.prog 34 #[.int .i64 a, .int .i64 x, .int .i64 b, .int .i64 y] w fun e w' => e = Three (ovm a x b y) (ovw a x b y) (ovk a x b y) ∧ w = w' := by
  obtain ⟨⟨a0, a1⟩, ⟨x0, x1⟩, ⟨b0, b1⟩, y0, y1⟩ := h.out
  go_enter Try.func34, Try.ntmps34
  go_wp2
  all_goals go_ret3
  all_goals first | exact ⟨thr (lo := a - x) (hi := a + x) (by unfold ovl; omega) (by unfold ovh; omega), rfl⟩ | exact ⟨thr (lo := a - x) (hi := b + y) (by unfold ovl; omega) (by unfold ovh; omega), rfl⟩ | exact ⟨thr (lo := b - y) (hi := a + x) (by unfold ovl; omega) (by unfold ovh; omega), rfl⟩ | exact ⟨thr (lo := b - y) (hi := b + y) (by unfold ovl; omega) (by unfold ovh; omega), rfl⟩
/-- the merged box, and the error. -/
def mg (x y r s p q u v : Int) : Int × Int × Int × Int × Int :=
  if bv x y r s && bv p q u v then (if ovk x r p u && ovk y s q v then (ovm x r p u, ovm y s q v, ovw x r p u, ovw y s q v, 0) else (0, 0, 0, 0, 11)) else (0, 0, 0, 0, 1)
theorem mg_cases (x y r s p q u v : Int) : (bv x y r s = false ∧ Hid (mg x y r s p q u v = (0, 0, 0, 0, 1))) ∨ (bv x y r s = true ∧ bv p q u v = false ∧ Hid (mg x y r s p q u v = (0, 0, 0, 0, 1)))
    ∨ (bv x y r s = true ∧ bv p q u v = true ∧ ovk x r p u = false ∧ Hid (mg x y r s p q u v = (0, 0, 0, 0, 11)))
    ∨ (bv x y r s = true ∧ bv p q u v = true ∧ ovk x r p u = true ∧ ovk y s q v = false ∧ Hid (mg x y r s p q u v = (0, 0, 0, 0, 11)))
    ∨ (bv x y r s = true ∧ bv p q u v = true ∧ ovk x r p u = true ∧ ovk y s q v = true ∧ Hid (mg x y r s p q u v = (ovm x r p u, ovm y s q v, ovw x r p u, ovw y s q v, 0))) := by
  unfold mg
  cases bv x y r s
  · exact .inl ⟨rfl, Lib.hid rfl⟩
  cases bv p q u v
  · exact .inr (.inl ⟨rfl, rfl, Lib.hid rfl⟩)
  cases ovk x r p u
  · exact .inr (.inr (.inl ⟨rfl, rfl, rfl, Lib.hid rfl⟩))
  cases ovk y s q v
  · exact .inr (.inr (.inr (.inl ⟨rfl, rfl, rfl, rfl, Lib.hid rfl⟩)))
  · exact .inr (.inr (.inr (.inr ⟨rfl, rfl, rfl, rfl, Lib.hid rfl⟩)))

set_option maxHeartbeats 1600000 in
theorem imerge_any0 (x y r s p q u v : Int) (w : World) (h1 : bv x y r s = false) (hh : Hid (mg x y r s p q u v = (0, 0, 0, 0, 1))) :
    Calls Try.prog 18 #[boxV x y r s, boxV p q u v] w fun e w' => e = Bx5 (mg x y r s p q u v) ∧ Below w.heap.size w w' := by
  go_enter Try.func18, Try.ntmps18
  go_wp2_with fail
  refine (ivalid_any _ _ _ _ _).mono ?_
  rintro e w1 ⟨rfl, hb⟩
  have B := thn (below_alloc3 w _ _ _) hb
  have TA := (((cell4_new w _ _ _ _ _).alc _).alc _).next hb
  have TB := ((cell4_new _ _ _ _ _ _).alc _).next hb
  have TZ := (cell4_new _ _ _ _ _ _).next hb
  simp only [World.alloc, Array.size_push] at TB TZ
  obtain ⟨c0, c1, c2, c3, f0, f1, f2, f3, l0⟩ := id TA
  obtain ⟨d0, d1, d2, d3, g0, g1, g2, g3, l1⟩ := id TB
  obtain ⟨z0, z1, z2, z3, y0, y1, y2, y3, l2⟩ := id TZ
  rw [h1]
  go_wp2
  have B6 := put4b B (p0 := ⟨w.heap.size + 1 + 1, 0, none⟩) (p1 := ⟨w.heap.size + 1 + 1, 1, none⟩) (p2 := ⟨w.heap.size + 1 + 1, 2, none⟩) (p3 := ⟨w.heap.size + 1 + 1, 3, none⟩) (by show w.heap.size ≤ w.heap.size + 1 + 1; omega) (by show w.heap.size ≤ w.heap.size + 1 + 1; omega) (by show w.heap.size ≤ w.heap.size + 1 + 1; omega) (by show w.heap.size ≤ w.heap.size + 1 + 1; omega) (.int .i64 0) (.int .i64 0) (.int .i64 0) (.int .i64 0)
  have TZ6 := (TZ).put (.int .i64 0) (.int .i64 0) (.int .i64 0) (.int .i64 0)
  generalize (((w1.setCell ⟨w.heap.size + 1 + 1, 0, none⟩ (.int .i64 0)).setCell ⟨w.heap.size + 1 + 1, 1, none⟩ (.int .i64 0)).setCell ⟨w.heap.size + 1 + 1, 2, none⟩ (.int .i64 0)).setCell ⟨w.heap.size + 1 + 1, 3, none⟩ (.int .i64 0) = w6 at B6 TZ6 ⊢
  obtain ⟨o0, o1, o2, o3, i0, i1, i2, i3, l9⟩ := TZ6
  refine bodyPost_ret (v := .tuple #[boxV 0 0 0 0, .int .i64 1]) (by simp [results, Try.results18, go_sem, o0, o1, o2, o3]) rfl ?_
  exact ⟨bx5 hh.out.symm, B6⟩
set_option maxHeartbeats 1600000 in
theorem imerge_any1 (x y r s p q u v : Int) (w : World) (h1 : bv x y r s = true) (h2 : bv p q u v = false) (hh : Hid (mg x y r s p q u v = (0, 0, 0, 0, 1))) :
    Calls Try.prog 18 #[boxV x y r s, boxV p q u v] w fun e w' => e = Bx5 (mg x y r s p q u v) ∧ Below w.heap.size w w' := by
  go_enter Try.func18, Try.ntmps18
  go_wp2_with fail
  refine (ivalid_any _ _ _ _ _).mono ?_
  rintro e w1 ⟨rfl, hb⟩
  have B := thn (below_alloc3 w _ _ _) hb
  have TA := (((cell4_new w _ _ _ _ _).alc _).alc _).next hb
  have TB := ((cell4_new _ _ _ _ _ _).alc _).next hb
  have TZ := (cell4_new _ _ _ _ _ _).next hb
  simp only [World.alloc, Array.size_push] at TB TZ
  obtain ⟨c0, c1, c2, c3, f0, f1, f2, f3, l0⟩ := id TA
  obtain ⟨d0, d1, d2, d3, g0, g1, g2, g3, l1⟩ := id TB
  obtain ⟨z0, z1, z2, z3, y0, y1, y2, y3, l2⟩ := id TZ
  rw [h1]
  go_wp2_with fail
  refine (ivalid_any _ _ _ _ _).mono ?_
  rintro e w2 ⟨rfl, hb2⟩
  clear c0 c1 c2 c3 f0 f1 f2 f3 l0 d0 d1 d2 d3 g0 g1 g2 g3 l1 z0 z1 z2 z3 y0 y1 y2 y3 l2
  replace B := thn B hb2
  obtain ⟨c0, c1, c2, c3, f0, f1, f2, f3, l0⟩ := TA.next hb2
  obtain ⟨d0, d1, d2, d3, g0, g1, g2, g3, l1⟩ := TB.next hb2
  obtain ⟨z0, z1, z2, z3, y0, y1, y2, y3, l2⟩ := TZ.next hb2
  rw [h2]
  go_wp2
  have B6 := put4b B (p0 := ⟨w.heap.size + 1 + 1, 0, none⟩) (p1 := ⟨w.heap.size + 1 + 1, 1, none⟩) (p2 := ⟨w.heap.size + 1 + 1, 2, none⟩) (p3 := ⟨w.heap.size + 1 + 1, 3, none⟩) (by show w.heap.size ≤ w.heap.size + 1 + 1; omega) (by show w.heap.size ≤ w.heap.size + 1 + 1; omega) (by show w.heap.size ≤ w.heap.size + 1 + 1; omega) (by show w.heap.size ≤ w.heap.size + 1 + 1; omega) (.int .i64 0) (.int .i64 0) (.int .i64 0) (.int .i64 0)
  have TZ6 := (TZ.next hb2).put (.int .i64 0) (.int .i64 0) (.int .i64 0) (.int .i64 0)
  generalize (((w2.setCell ⟨w.heap.size + 1 + 1, 0, none⟩ (.int .i64 0)).setCell ⟨w.heap.size + 1 + 1, 1, none⟩ (.int .i64 0)).setCell ⟨w.heap.size + 1 + 1, 2, none⟩ (.int .i64 0)).setCell ⟨w.heap.size + 1 + 1, 3, none⟩ (.int .i64 0) = w6 at B6 TZ6 ⊢
  obtain ⟨o0, o1, o2, o3, i0, i1, i2, i3, l9⟩ := TZ6
  refine bodyPost_ret (v := .tuple #[boxV 0 0 0 0, .int .i64 1]) (by simp [results, Try.results18, go_sem, o0, o1, o2, o3]) rfl ?_
  exact ⟨bx5 hh.out.symm, B6⟩
set_option maxHeartbeats 1600000 in
theorem imerge_any2 (x y r s p q u v : Int) (w : World) (h1 : bv x y r s = true) (h2 : bv p q u v = true) (h3 : ovk x r p u = false) (hh : Hid (mg x y r s p q u v = (0, 0, 0, 0, 11))) :
    Calls Try.prog 18 #[boxV x y r s, boxV p q u v] w fun e w' => e = Bx5 (mg x y r s p q u v) ∧ Below w.heap.size w w' := by
  obtain ⟨HX, HY⟩ := ovb_x h1 h2
  go_enter Try.func18, Try.ntmps18
  go_wp2_with fail
  refine (ivalid_any _ _ _ _ _).mono ?_
  rintro e w1 ⟨rfl, hb⟩
  have B := thn (below_alloc3 w _ _ _) hb
  have TA := (((cell4_new w _ _ _ _ _).alc _).alc _).next hb
  have TB := ((cell4_new _ _ _ _ _ _).alc _).next hb
  have TZ := (cell4_new _ _ _ _ _ _).next hb
  simp only [World.alloc, Array.size_push] at TB TZ
  obtain ⟨c0, c1, c2, c3, f0, f1, f2, f3, l0⟩ := id TA
  obtain ⟨d0, d1, d2, d3, g0, g1, g2, g3, l1⟩ := id TB
  obtain ⟨z0, z1, z2, z3, y0, y1, y2, y3, l2⟩ := id TZ
  rw [h1]
  go_wp2_with fail
  refine (ivalid_any _ _ _ _ _).mono ?_
  rintro e w2 ⟨rfl, hb2⟩
  clear c0 c1 c2 c3 f0 f1 f2 f3 l0 d0 d1 d2 d3 g0 g1 g2 g3 l1 z0 z1 z2 z3 y0 y1 y2 y3 l2
  replace B := thn B hb2
  obtain ⟨c0, c1, c2, c3, f0, f1, f2, f3, l0⟩ := TA.next hb2
  obtain ⟨d0, d1, d2, d3, g0, g1, g2, g3, l1⟩ := TB.next hb2
  obtain ⟨z0, z1, z2, z3, y0, y1, y2, y3, l2⟩ := TZ.next hb2
  rw [h2]
  have TA2 := TA.next hb2
  have TB2 := TB.next hb2
  have TZ2 := TZ.next hb2
  go_wp2_with fail
  have TC := cell4_new w2 (.int .i64 0) (.int .i64 0) (.int .i64 0) (.int .i64 0) 25
  have TA3 := TA2.alc (.cells #[.int .i64 0, .int .i64 0, .int .i64 0, .int .i64 0] 25)
  have TB3 := TB2.alc (.cells #[.int .i64 0, .int .i64 0, .int .i64 0, .int .i64 0] 25)
  have TZ3 := TZ2.alc (.cells #[.int .i64 0, .int .i64 0, .int .i64 0, .int .i64 0] 25)
  replace B := alc B (.cells #[.int .i64 0, .int .i64 0, .int .i64 0, .int .i64 0] 25)
  have nl := l2
  have nb := Nat.lt_trans (Nat.lt_succ_self _) nl
  have na := Nat.lt_trans (Nat.lt_succ_self _) nb
  clear c0 c1 c2 c3 f0 f1 f2 f3 l0 d0 d1 d2 d3 g0 g1 g2 g3 l1 z0 z1 z2 z3 y0 y1 y2 y3 l2 TA2 TB2 TZ2 TA TB TZ hb2 hb
  generalize w2.alloc (.cells #[.int .i64 0, .int .i64 0, .int .i64 0, .int .i64 0] 25) = w3 at TA3 TB3 TZ3 TC B ⊢
  generalize w2.heap.size = n at TC nl nb na ⊢
  refine (overlap_any _ _ _ _ _ HX).mono ?_
  rintro e w' ⟨rfl, rfl⟩
  obtain ⟨c0, c1, c2, c3, f0, f1, f2, f3, l0⟩ := id TA3
  obtain ⟨d0, d1, d2, d3, g0, g1, g2, g3, l1⟩ := id TB3
  obtain ⟨x0, x1, x2, x3, e0, e1, e2, e3, l3⟩ := id TC
  go_wp2_with fail
  have TC4 := (TC.put0 (.int .i64 (ovm x r p u))).put2 (.int .i64 (ovw x r p u))
  have TA4 := (TA3.else (p := ⟨n, 0, none⟩) (by simp; omega) (.int .i64 (ovm x r p u))).else (p := ⟨n, 2, none⟩) (by simp; omega) (.int .i64 (ovw x r p u))
  have TB4 := (TB3.else (p := ⟨n, 0, none⟩) (by simp; omega) (.int .i64 (ovm x r p u))).else (p := ⟨n, 2, none⟩) (by simp; omega) (.int .i64 (ovw x r p u))
  have TZ4 := (TZ3.else (p := ⟨n, 0, none⟩) (by simp; omega) (.int .i64 (ovm x r p u))).else (p := ⟨n, 2, none⟩) (by simp; omega) (.int .i64 (ovw x r p u))
  replace B := (B.setCell (p := ⟨n, 0, none⟩) (by simp; omega) (.int .i64 (ovm x r p u))).setCell (p := ⟨n, 2, none⟩) (by simp; omega) (.int .i64 (ovw x r p u))
  clear c0 c1 c2 c3 f0 f1 f2 f3 l0 d0 d1 d2 d3 g0 g1 g2 g3 l1 x0 x1 x2 x3 e0 e1 e2 e3 l3 TA3 TB3 TZ3 TC
  generalize (w3.setCell ⟨n, 0, none⟩ (.int .i64 (ovm x r p u))).setCell ⟨n, 2, none⟩ (.int .i64 (ovw x r p u)) = w4 at TA4 TB4 TZ4 TC4 B ⊢
  refine (overlap_any _ _ _ _ _ HY).mono ?_
  rintro e w' ⟨rfl, rfl⟩
  obtain ⟨x0, x1, x2, x3, e0, e1, e2, e3, l3⟩ := id TC4
  obtain ⟨z0, z1, z2, z3, y0, y1, y2, y3, l2⟩ := id TZ4
  clear TA4 TB4
  go_wp2
  have B5 := (B.setCell (p := ⟨n, 1, none⟩) (by simp; omega) (.int .i64 (ovm y s q v))).setCell (p := ⟨n, 3, none⟩) (by simp; omega) (.int .i64 (ovw y s q v))
  have TZ5 := (TZ4.else (p := ⟨n, 1, none⟩) (by simp; omega) (.int .i64 (ovm y s q v))).else (p := ⟨n, 3, none⟩) (by simp; omega) (.int .i64 (ovw y s q v))
  generalize (w4.setCell ⟨n, 1, none⟩ (.int .i64 (ovm y s q v))).setCell ⟨n, 3, none⟩ (.int .i64 (ovw y s q v)) = w5 at B5 TZ5 ⊢
  have B6 := put4b B5 (p0 := ⟨w.heap.size + 1 + 1, 0, none⟩) (p1 := ⟨w.heap.size + 1 + 1, 1, none⟩) (p2 := ⟨w.heap.size + 1 + 1, 2, none⟩) (p3 := ⟨w.heap.size + 1 + 1, 3, none⟩) (by show w.heap.size ≤ w.heap.size + 1 + 1; omega) (by show w.heap.size ≤ w.heap.size + 1 + 1; omega) (by show w.heap.size ≤ w.heap.size + 1 + 1; omega) (by show w.heap.size ≤ w.heap.size + 1 + 1; omega) (.int .i64 0) (.int .i64 0) (.int .i64 0) (.int .i64 0)
  have TZ6 := (TZ5).put (.int .i64 0) (.int .i64 0) (.int .i64 0) (.int .i64 0)
  generalize (((w5.setCell ⟨w.heap.size + 1 + 1, 0, none⟩ (.int .i64 0)).setCell ⟨w.heap.size + 1 + 1, 1, none⟩ (.int .i64 0)).setCell ⟨w.heap.size + 1 + 1, 2, none⟩ (.int .i64 0)).setCell ⟨w.heap.size + 1 + 1, 3, none⟩ (.int .i64 0) = w6 at B6 TZ6 ⊢
  obtain ⟨o0, o1, o2, o3, i0, i1, i2, i3, l9⟩ := TZ6
  refine bodyPost_ret (v := .tuple #[boxV 0 0 0 0, .int .i64 11]) (by simp [results, Try.results18, go_sem, o0, o1, o2, o3]) rfl ?_
  exact ⟨bx5 hh.out.symm, B6⟩
set_option maxHeartbeats 1600000 in
theorem imerge_any3 (x y r s p q u v : Int) (w : World) (h1 : bv x y r s = true) (h2 : bv p q u v = true) (h3 : ovk x r p u = true) (h4 : ovk y s q v = false) (hh : Hid (mg x y r s p q u v = (0, 0, 0, 0, 11))) :
    Calls Try.prog 18 #[boxV x y r s, boxV p q u v] w fun e w' => e = Bx5 (mg x y r s p q u v) ∧ Below w.heap.size w w' := by
  obtain ⟨HX, HY⟩ := ovb_x h1 h2
  go_enter Try.func18, Try.ntmps18
  go_wp2_with fail
  refine (ivalid_any _ _ _ _ _).mono ?_
  rintro e w1 ⟨rfl, hb⟩
  have B := thn (below_alloc3 w _ _ _) hb
  have TA := (((cell4_new w _ _ _ _ _).alc _).alc _).next hb
  have TB := ((cell4_new _ _ _ _ _ _).alc _).next hb
  have TZ := (cell4_new _ _ _ _ _ _).next hb
  simp only [World.alloc, Array.size_push] at TB TZ
  obtain ⟨c0, c1, c2, c3, f0, f1, f2, f3, l0⟩ := id TA
  obtain ⟨d0, d1, d2, d3, g0, g1, g2, g3, l1⟩ := id TB
  obtain ⟨z0, z1, z2, z3, y0, y1, y2, y3, l2⟩ := id TZ
  rw [h1]
  go_wp2_with fail
  refine (ivalid_any _ _ _ _ _).mono ?_
  rintro e w2 ⟨rfl, hb2⟩
  clear c0 c1 c2 c3 f0 f1 f2 f3 l0 d0 d1 d2 d3 g0 g1 g2 g3 l1 z0 z1 z2 z3 y0 y1 y2 y3 l2
  replace B := thn B hb2
  obtain ⟨c0, c1, c2, c3, f0, f1, f2, f3, l0⟩ := TA.next hb2
  obtain ⟨d0, d1, d2, d3, g0, g1, g2, g3, l1⟩ := TB.next hb2
  obtain ⟨z0, z1, z2, z3, y0, y1, y2, y3, l2⟩ := TZ.next hb2
  rw [h2]
  have TA2 := TA.next hb2
  have TB2 := TB.next hb2
  have TZ2 := TZ.next hb2
  go_wp2_with fail
  have TC := cell4_new w2 (.int .i64 0) (.int .i64 0) (.int .i64 0) (.int .i64 0) 25
  have TA3 := TA2.alc (.cells #[.int .i64 0, .int .i64 0, .int .i64 0, .int .i64 0] 25)
  have TB3 := TB2.alc (.cells #[.int .i64 0, .int .i64 0, .int .i64 0, .int .i64 0] 25)
  have TZ3 := TZ2.alc (.cells #[.int .i64 0, .int .i64 0, .int .i64 0, .int .i64 0] 25)
  replace B := alc B (.cells #[.int .i64 0, .int .i64 0, .int .i64 0, .int .i64 0] 25)
  have nl := l2
  have nb := Nat.lt_trans (Nat.lt_succ_self _) nl
  have na := Nat.lt_trans (Nat.lt_succ_self _) nb
  clear c0 c1 c2 c3 f0 f1 f2 f3 l0 d0 d1 d2 d3 g0 g1 g2 g3 l1 z0 z1 z2 z3 y0 y1 y2 y3 l2 TA2 TB2 TZ2 TA TB TZ hb2 hb
  generalize w2.alloc (.cells #[.int .i64 0, .int .i64 0, .int .i64 0, .int .i64 0] 25) = w3 at TA3 TB3 TZ3 TC B ⊢
  generalize w2.heap.size = n at TC nl nb na ⊢
  refine (overlap_any _ _ _ _ _ HX).mono ?_
  rintro e w' ⟨rfl, rfl⟩
  obtain ⟨c0, c1, c2, c3, f0, f1, f2, f3, l0⟩ := id TA3
  obtain ⟨d0, d1, d2, d3, g0, g1, g2, g3, l1⟩ := id TB3
  obtain ⟨x0, x1, x2, x3, e0, e1, e2, e3, l3⟩ := id TC
  go_wp2_with fail
  have TC4 := (TC.put0 (.int .i64 (ovm x r p u))).put2 (.int .i64 (ovw x r p u))
  have TA4 := (TA3.else (p := ⟨n, 0, none⟩) (by simp; omega) (.int .i64 (ovm x r p u))).else (p := ⟨n, 2, none⟩) (by simp; omega) (.int .i64 (ovw x r p u))
  have TB4 := (TB3.else (p := ⟨n, 0, none⟩) (by simp; omega) (.int .i64 (ovm x r p u))).else (p := ⟨n, 2, none⟩) (by simp; omega) (.int .i64 (ovw x r p u))
  have TZ4 := (TZ3.else (p := ⟨n, 0, none⟩) (by simp; omega) (.int .i64 (ovm x r p u))).else (p := ⟨n, 2, none⟩) (by simp; omega) (.int .i64 (ovw x r p u))
  replace B := (B.setCell (p := ⟨n, 0, none⟩) (by simp; omega) (.int .i64 (ovm x r p u))).setCell (p := ⟨n, 2, none⟩) (by simp; omega) (.int .i64 (ovw x r p u))
  clear c0 c1 c2 c3 f0 f1 f2 f3 l0 d0 d1 d2 d3 g0 g1 g2 g3 l1 x0 x1 x2 x3 e0 e1 e2 e3 l3 TA3 TB3 TZ3 TC
  generalize (w3.setCell ⟨n, 0, none⟩ (.int .i64 (ovm x r p u))).setCell ⟨n, 2, none⟩ (.int .i64 (ovw x r p u)) = w4 at TA4 TB4 TZ4 TC4 B ⊢
  refine (overlap_any _ _ _ _ _ HY).mono ?_
  rintro e w' ⟨rfl, rfl⟩
  obtain ⟨x0, x1, x2, x3, e0, e1, e2, e3, l3⟩ := id TC4
  obtain ⟨z0, z1, z2, z3, y0, y1, y2, y3, l2⟩ := id TZ4
  clear TA4 TB4
  go_wp2
  have B5 := (B.setCell (p := ⟨n, 1, none⟩) (by simp; omega) (.int .i64 (ovm y s q v))).setCell (p := ⟨n, 3, none⟩) (by simp; omega) (.int .i64 (ovw y s q v))
  have TZ5 := (TZ4.else (p := ⟨n, 1, none⟩) (by simp; omega) (.int .i64 (ovm y s q v))).else (p := ⟨n, 3, none⟩) (by simp; omega) (.int .i64 (ovw y s q v))
  generalize (w4.setCell ⟨n, 1, none⟩ (.int .i64 (ovm y s q v))).setCell ⟨n, 3, none⟩ (.int .i64 (ovw y s q v)) = w5 at B5 TZ5 ⊢
  have B6 := put4b B5 (p0 := ⟨w.heap.size + 1 + 1, 0, none⟩) (p1 := ⟨w.heap.size + 1 + 1, 1, none⟩) (p2 := ⟨w.heap.size + 1 + 1, 2, none⟩) (p3 := ⟨w.heap.size + 1 + 1, 3, none⟩) (by show w.heap.size ≤ w.heap.size + 1 + 1; omega) (by show w.heap.size ≤ w.heap.size + 1 + 1; omega) (by show w.heap.size ≤ w.heap.size + 1 + 1; omega) (by show w.heap.size ≤ w.heap.size + 1 + 1; omega) (.int .i64 0) (.int .i64 0) (.int .i64 0) (.int .i64 0)
  have TZ6 := (TZ5).put (.int .i64 0) (.int .i64 0) (.int .i64 0) (.int .i64 0)
  generalize (((w5.setCell ⟨w.heap.size + 1 + 1, 0, none⟩ (.int .i64 0)).setCell ⟨w.heap.size + 1 + 1, 1, none⟩ (.int .i64 0)).setCell ⟨w.heap.size + 1 + 1, 2, none⟩ (.int .i64 0)).setCell ⟨w.heap.size + 1 + 1, 3, none⟩ (.int .i64 0) = w6 at B6 TZ6 ⊢
  obtain ⟨o0, o1, o2, o3, i0, i1, i2, i3, l9⟩ := TZ6
  refine bodyPost_ret (v := .tuple #[boxV 0 0 0 0, .int .i64 11]) (by simp [results, Try.results18, go_sem, o0, o1, o2, o3]) rfl ?_
  exact ⟨bx5 hh.out.symm, B6⟩
set_option maxHeartbeats 1600000 in
theorem imerge_any4 (x y r s p q u v : Int) (w : World) (h1 : bv x y r s = true) (h2 : bv p q u v = true) (h3 : ovk x r p u = true) (h4 : ovk y s q v = true) (hh : Hid (mg x y r s p q u v = (ovm x r p u, ovm y s q v, ovw x r p u, ovw y s q v, 0))) :
    Calls Try.prog 18 #[boxV x y r s, boxV p q u v] w fun e w' => e = Bx5 (mg x y r s p q u v) ∧ Below w.heap.size w w' := by
  obtain ⟨HX, HY⟩ := ovb_x h1 h2
  go_enter Try.func18, Try.ntmps18
  go_wp2_with fail
  refine (ivalid_any _ _ _ _ _).mono ?_
  rintro e w1 ⟨rfl, hb⟩
  have B := thn (below_alloc3 w _ _ _) hb
  have TA := (((cell4_new w _ _ _ _ _).alc _).alc _).next hb
  have TB := ((cell4_new _ _ _ _ _ _).alc _).next hb
  have TZ := (cell4_new _ _ _ _ _ _).next hb
  simp only [World.alloc, Array.size_push] at TB TZ
  obtain ⟨c0, c1, c2, c3, f0, f1, f2, f3, l0⟩ := id TA
  obtain ⟨d0, d1, d2, d3, g0, g1, g2, g3, l1⟩ := id TB
  obtain ⟨z0, z1, z2, z3, y0, y1, y2, y3, l2⟩ := id TZ
  rw [h1]
  go_wp2_with fail
  refine (ivalid_any _ _ _ _ _).mono ?_
  rintro e w2 ⟨rfl, hb2⟩
  clear c0 c1 c2 c3 f0 f1 f2 f3 l0 d0 d1 d2 d3 g0 g1 g2 g3 l1 z0 z1 z2 z3 y0 y1 y2 y3 l2
  replace B := thn B hb2
  obtain ⟨c0, c1, c2, c3, f0, f1, f2, f3, l0⟩ := TA.next hb2
  obtain ⟨d0, d1, d2, d3, g0, g1, g2, g3, l1⟩ := TB.next hb2
  obtain ⟨z0, z1, z2, z3, y0, y1, y2, y3, l2⟩ := TZ.next hb2
  rw [h2]
  have TA2 := TA.next hb2
  have TB2 := TB.next hb2
  have TZ2 := TZ.next hb2
  go_wp2_with fail
  have TC := cell4_new w2 (.int .i64 0) (.int .i64 0) (.int .i64 0) (.int .i64 0) 25
  have TA3 := TA2.alc (.cells #[.int .i64 0, .int .i64 0, .int .i64 0, .int .i64 0] 25)
  have TB3 := TB2.alc (.cells #[.int .i64 0, .int .i64 0, .int .i64 0, .int .i64 0] 25)
  have TZ3 := TZ2.alc (.cells #[.int .i64 0, .int .i64 0, .int .i64 0, .int .i64 0] 25)
  replace B := alc B (.cells #[.int .i64 0, .int .i64 0, .int .i64 0, .int .i64 0] 25)
  have nl := l2
  have nb := Nat.lt_trans (Nat.lt_succ_self _) nl
  have na := Nat.lt_trans (Nat.lt_succ_self _) nb
  clear c0 c1 c2 c3 f0 f1 f2 f3 l0 d0 d1 d2 d3 g0 g1 g2 g3 l1 z0 z1 z2 z3 y0 y1 y2 y3 l2 TA2 TB2 TZ2 TA TB TZ hb2 hb
  generalize w2.alloc (.cells #[.int .i64 0, .int .i64 0, .int .i64 0, .int .i64 0] 25) = w3 at TA3 TB3 TZ3 TC B ⊢
  generalize w2.heap.size = n at TC nl nb na ⊢
  refine (overlap_any _ _ _ _ _ HX).mono ?_
  rintro e w' ⟨rfl, rfl⟩
  obtain ⟨c0, c1, c2, c3, f0, f1, f2, f3, l0⟩ := id TA3
  obtain ⟨d0, d1, d2, d3, g0, g1, g2, g3, l1⟩ := id TB3
  obtain ⟨x0, x1, x2, x3, e0, e1, e2, e3, l3⟩ := id TC
  go_wp2_with fail
  have TC4 := (TC.put0 (.int .i64 (ovm x r p u))).put2 (.int .i64 (ovw x r p u))
  have TA4 := (TA3.else (p := ⟨n, 0, none⟩) (by simp; omega) (.int .i64 (ovm x r p u))).else (p := ⟨n, 2, none⟩) (by simp; omega) (.int .i64 (ovw x r p u))
  have TB4 := (TB3.else (p := ⟨n, 0, none⟩) (by simp; omega) (.int .i64 (ovm x r p u))).else (p := ⟨n, 2, none⟩) (by simp; omega) (.int .i64 (ovw x r p u))
  have TZ4 := (TZ3.else (p := ⟨n, 0, none⟩) (by simp; omega) (.int .i64 (ovm x r p u))).else (p := ⟨n, 2, none⟩) (by simp; omega) (.int .i64 (ovw x r p u))
  replace B := (B.setCell (p := ⟨n, 0, none⟩) (by simp; omega) (.int .i64 (ovm x r p u))).setCell (p := ⟨n, 2, none⟩) (by simp; omega) (.int .i64 (ovw x r p u))
  clear c0 c1 c2 c3 f0 f1 f2 f3 l0 d0 d1 d2 d3 g0 g1 g2 g3 l1 x0 x1 x2 x3 e0 e1 e2 e3 l3 TA3 TB3 TZ3 TC
  generalize (w3.setCell ⟨n, 0, none⟩ (.int .i64 (ovm x r p u))).setCell ⟨n, 2, none⟩ (.int .i64 (ovw x r p u)) = w4 at TA4 TB4 TZ4 TC4 B ⊢
  refine (overlap_any _ _ _ _ _ HY).mono ?_
  rintro e w' ⟨rfl, rfl⟩
  obtain ⟨x0, x1, x2, x3, e0, e1, e2, e3, l3⟩ := id TC4
  obtain ⟨z0, z1, z2, z3, y0, y1, y2, y3, l2⟩ := id TZ4
  clear TA4 TB4
  go_wp2
  have B5 := (B.setCell (p := ⟨n, 1, none⟩) (by simp; omega) (.int .i64 (ovm y s q v))).setCell (p := ⟨n, 3, none⟩) (by simp; omega) (.int .i64 (ovw y s q v))
  have TZ5 := (TZ4.else (p := ⟨n, 1, none⟩) (by simp; omega) (.int .i64 (ovm y s q v))).else (p := ⟨n, 3, none⟩) (by simp; omega) (.int .i64 (ovw y s q v))
  generalize (w4.setCell ⟨n, 1, none⟩ (.int .i64 (ovm y s q v))).setCell ⟨n, 3, none⟩ (.int .i64 (ovw y s q v)) = w5 at B5 TZ5 ⊢
  have B6 := put4b B5 (p0 := ⟨w.heap.size + 1 + 1, 0, none⟩) (p1 := ⟨w.heap.size + 1 + 1, 1, none⟩) (p2 := ⟨w.heap.size + 1 + 1, 2, none⟩) (p3 := ⟨w.heap.size + 1 + 1, 3, none⟩) (by show w.heap.size ≤ w.heap.size + 1 + 1; omega) (by show w.heap.size ≤ w.heap.size + 1 + 1; omega) (by show w.heap.size ≤ w.heap.size + 1 + 1; omega) (by show w.heap.size ≤ w.heap.size + 1 + 1; omega) (.int .i64 (ovm x r p u)) (.int .i64 (ovm y s q v)) (.int .i64 (ovw x r p u)) (.int .i64 (ovw y s q v))
  have TZ6 := (TZ5).put (.int .i64 (ovm x r p u)) (.int .i64 (ovm y s q v)) (.int .i64 (ovw x r p u)) (.int .i64 (ovw y s q v))
  generalize (((w5.setCell ⟨w.heap.size + 1 + 1, 0, none⟩ (.int .i64 (ovm x r p u))).setCell ⟨w.heap.size + 1 + 1, 1, none⟩ (.int .i64 (ovm y s q v))).setCell ⟨w.heap.size + 1 + 1, 2, none⟩ (.int .i64 (ovw x r p u))).setCell ⟨w.heap.size + 1 + 1, 3, none⟩ (.int .i64 (ovw y s q v)) = w6 at B6 TZ6 ⊢
  obtain ⟨o0, o1, o2, o3, i0, i1, i2, i3, l9⟩ := TZ6
  refine bodyPost_ret (v := .tuple #[boxV (ovm x r p u) (ovm y s q v) (ovw x r p u) (ovw y s q v), .int .i64 0]) (by simp [results, Try.results18, go_sem, o0, o1, o2, o3]) rfl ?_
  exact ⟨bx5 hh.out.symm, B6⟩
theorem imerge_any (x y r s p q u v : Int) (w : World) :
    Calls Try.prog 18 #[boxV x y r s, boxV p q u v] w fun e w' => e = Bx5 (mg x y r s p q u v) ∧ Below w.heap.size w w' := by
  rcases mg_cases x y r s p q u v with ⟨h1, hh⟩ | ⟨h1, h2, hh⟩ | ⟨h1, h2, h3, hh⟩ | ⟨h1, h2, h3, h4, hh⟩ | ⟨h1, h2, h3, h4, hh⟩
  · exact imerge_any0 x y r s p q u v w h1 hh
  · exact imerge_any1 x y r s p q u v w h1 h2 hh
  · exact imerge_any2 x y r s p q u v w h1 h2 h3 hh
  · exact imerge_any3 x y r s p q u v w h1 h2 h3 h4 hh
  · exact imerge_any4 x y r s p q u v w h1 h2 h3 h4 hh
end Go.Proofs.Ytfeoladkpgojpaa
