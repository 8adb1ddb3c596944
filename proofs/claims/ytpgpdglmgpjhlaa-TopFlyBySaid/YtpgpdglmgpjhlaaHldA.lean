/- A point at a distance on a course: both sides. -/
import Derived.Test.YtpgpdglmgpjhlaaPlnA
import Derived.Test.YtpgpdglmgpjhlaaSphR
namespace Go.Proofs.Ytpgpdglmgpjhlaa
open Go.RowKit Go.Joins Fdk
set_option linter.unusedVariables false
abbrev Pt3 (c : Int × Int × Int) : Ending := .returned (.tuple #[ptV c.1 c.2.1, .int .i64 c.2.2])
theorem pt3h {c d : Int × Int × Int} (h : c = d) : Pt3 c = Pt3 d := by rw [h]
def rayv (a b c d : Int) : Int × Int × Int := if pvd a b then (if d > 8000000 ∨ d < -8000000 then (0, 0, 2) else if pvd (a + qnear (d * sn c) 1073741824) (b + qnear (d * cn c) 1073741824) then (a + qnear (d * sn c) 1073741824, b + qnear (d * cn c) 1073741824, 0) else (0, 0, 2)) else (0, 0, 1)
theorem ds_b {d x : Int} (h0 : -8000000 ≤ d) (h1 : d ≤ 8000000) (x0 : -1073741824 ≤ x) (x1 : x ≤ 1073741824) : -8589934592000000 ≤ d * x ∧ d * x ≤ 8589934592000000 := by
  have := pb (p := d) (q := x) 8589934592000000 ⟨h0, h1⟩ ⟨x0, x1⟩ (by omega) (by decide)
  exact this
theorem qn_b {p : Int} (h0 : -8589934592000000 ≤ p) (h1 : p ≤ 8589934592000000) : -8000001 ≤ qnear p 1073741824 ∧ qnear p 1073741824 ≤ 8000001 := by
  unfold qnear
  constructor
  · refine Int.le_ediv_of_mul_le (by omega) (by omega)
  · have := Int.ediv_le_ediv (a := 2 * p + 1073741824) (b := 2 * 8589934592000000 + 1073741824) (c := 2 * 1073741824) (by omega) (by omega)
    have e : (2 * 8589934592000000 + 1073741824 : Int) / (2 * 1073741824) = 8000000 := by decide
    omega

set_option maxHeartbeats 4000000 in
theorem ray_a (a b c d : Int) (w : World) (h1 : pvd a b = false) :
    Calls Try.prog 22 #[ptV a b, .int .i64 c, .int .i64 d] w fun e w' => e = Pt3 (0, 0, 1) ∧ Below w.heap.size w w' := by
  have HV := Lib.hid h1
  clear h1
  go_enter Try.func22, Try.ntmps22
  go_wp2_with fail
  have B := below_alloc2 w (.cells #[.int .i64 a, .int .i64 b] 23) (.cells #[.int .i64 0, .int .i64 0] 23)
  have T := (c2_new w (.int .i64 a) (.int .i64 b) 23).alc (.cells #[.int .i64 0, .int .i64 0] 23)
  have Z := c2_new (w.alloc (.cells #[.int .i64 a, .int .i64 b] 23)) (.int .i64 0) (.int .i64 0) 23
  rw [show (w.alloc (.cells #[.int .i64 a, .int .i64 b] 23)).heap.size = w.heap.size + 1 by simp] at Z
  generalize (w.alloc (.cells #[.int .i64 a, .int .i64 b] 23)).alloc (.cells #[.int .i64 0, .int .i64 0] 23) = w0 at *
  refine (pvalid_any _ _ _).mono ?_
  rintro e w1 ⟨rfl, hb⟩
  replace B := thn B hb
  replace T := T.next hb
  replace Z := Z.next hb
  clear hb
  rw [HV.out]
  obtain ⟨z0, z1, z2, z3, zl⟩ := id Z
  go_wp2
  exact bodyPost_ret (v := .tuple #[ptV (0) (0), .int .i64 1]) (by simp [results, Try.results22, go_sem, *]) rfl ⟨rfl, below_put2 B (b := w.heap.size + 1) (Nat.le_succ _) _ _⟩
set_option maxHeartbeats 4000000 in
theorem ray_bp (a b c d : Int) (w : World) (h1 : pvd a b = true) (h2 : d > 8000000) :
    Calls Try.prog 22 #[ptV a b, .int .i64 c, .int .i64 d] w fun e w' => e = Pt3 (0, 0, 2) ∧ Below w.heap.size w w' := by
  have HV := Lib.hid h1
  clear h1
  go_enter Try.func22, Try.ntmps22
  go_wp2_with fail
  have B := below_alloc2 w (.cells #[.int .i64 a, .int .i64 b] 23) (.cells #[.int .i64 0, .int .i64 0] 23)
  have T := (c2_new w (.int .i64 a) (.int .i64 b) 23).alc (.cells #[.int .i64 0, .int .i64 0] 23)
  have Z := c2_new (w.alloc (.cells #[.int .i64 a, .int .i64 b] 23)) (.int .i64 0) (.int .i64 0) 23
  rw [show (w.alloc (.cells #[.int .i64 a, .int .i64 b] 23)).heap.size = w.heap.size + 1 by simp] at Z
  generalize (w.alloc (.cells #[.int .i64 a, .int .i64 b] 23)).alloc (.cells #[.int .i64 0, .int .i64 0] 23) = w0 at *
  refine (pvalid_any _ _ _).mono ?_
  rintro e w1 ⟨rfl, hb⟩
  replace B := thn B hb
  replace T := T.next hb
  replace Z := Z.next hb
  clear hb
  rw [HV.out]
  obtain ⟨z0, z1, z2, z3, zl⟩ := id Z
  go_wp2
  exact bodyPost_ret (v := .tuple #[ptV (0) (0), .int .i64 2]) (by simp [results, Try.results22, go_sem, *]) rfl ⟨rfl, below_put2 B (b := w.heap.size + 1) (Nat.le_succ _) _ _⟩
set_option maxHeartbeats 4000000 in
theorem ray_bn (a b c d : Int) (w : World) (h1 : pvd a b = true) (h2 : ¬ d > 8000000) (h3 : d < -8000000) :
    Calls Try.prog 22 #[ptV a b, .int .i64 c, .int .i64 d] w fun e w' => e = Pt3 (0, 0, 2) ∧ Below w.heap.size w w' := by
  have HV := Lib.hid h1
  clear h1
  go_enter Try.func22, Try.ntmps22
  go_wp2_with fail
  have B := below_alloc2 w (.cells #[.int .i64 a, .int .i64 b] 23) (.cells #[.int .i64 0, .int .i64 0] 23)
  have T := (c2_new w (.int .i64 a) (.int .i64 b) 23).alc (.cells #[.int .i64 0, .int .i64 0] 23)
  have Z := c2_new (w.alloc (.cells #[.int .i64 a, .int .i64 b] 23)) (.int .i64 0) (.int .i64 0) 23
  rw [show (w.alloc (.cells #[.int .i64 a, .int .i64 b] 23)).heap.size = w.heap.size + 1 by simp] at Z
  generalize (w.alloc (.cells #[.int .i64 a, .int .i64 b] 23)).alloc (.cells #[.int .i64 0, .int .i64 0] 23) = w0 at *
  refine (pvalid_any _ _ _).mono ?_
  rintro e w1 ⟨rfl, hb⟩
  replace B := thn B hb
  replace T := T.next hb
  replace Z := Z.next hb
  clear hb
  rw [HV.out]
  obtain ⟨z0, z1, z2, z3, zl⟩ := id Z
  go_wp2
  exact bodyPost_ret (v := .tuple #[ptV (0) (0), .int .i64 2]) (by simp [results, Try.results22, go_sem, *]) rfl ⟨rfl, below_put2 B (b := w.heap.size + 1) (Nat.le_succ _) _ _⟩
set_option maxHeartbeats 4000000 in
theorem ray_c (a b c d : Int) (w : World) (h1 : pvd a b = true) (h2 : ¬ d > 8000000) (h3 : ¬ d < -8000000) (h4 : pvd (a + qnear (d * sn c) 1073741824) (b + qnear (d * cn c) 1073741824) = false) :
    Calls Try.prog 22 #[ptV a b, .int .i64 c, .int .i64 d] w fun e w' => e = Pt3 (0, 0, 2) ∧ Below w.heap.size w w' := by
  have HR := Lib.hid (rfl : (a + qnear (d * sn c) 1073741824, b + qnear (d * cn c) 1073741824, (0 : Int)) = (a + qnear (d * sn c) 1073741824, b + qnear (d * cn c) 1073741824, 0))
  generalize hT : (a + qnear (d * sn c) 1073741824, b + qnear (d * cn c) 1073741824, (0 : Int)) = R
  replace HR := Lib.hid hT
  clear hT
  have ⟨p1, p2⟩ := pvd_of h1
  have HV := Lib.hid h1
  have HQ := Lib.hid h4
  clear h1 h4
  have s0 := ds_b (d := d) (x := sn c) (by omega) (by omega) (sn_b c).1 (sn_b c).2
  have s1 := ds_b (d := d) (x := cn c) (by omega) (by omega) (cn_b c).1 (cn_b c).2
  have q0 := qn_b s0.1 s0.2
  have q1 := qn_b s1.1 s1.2
  have HS := Lib.hid (fun w => sin_any c w)
  have HC := Lib.hid (fun w => cos_any c w)
  have HF := Lib.hid (fun w => fround_any (d * sn c) 1073741824 w (by omega) (by omega) (by omega) (by omega))
  have HG := Lib.hid (fun w => fround_any (d * cn c) 1073741824 w (by omega) (by omega) (by omega) (by omega))
  have e0 : IntKind.i64.wrap (d * sn c) = d * sn c := IntWalk.i64_in _ (by omega)
  have e1 : IntKind.i64.wrap (d * cn c) = d * cn c := IntWalk.i64_in _ (by omega)
  generalize sn c = SN at *
  generalize cn c = CN at *
  generalize qnear (d * SN) 1073741824 = X at *
  generalize qnear (d * CN) 1073741824 = Y at *
  clear s0 s1
  go_enter Try.func22, Try.ntmps22
  go_wp2_with fail
  have B := below_alloc2 w (.cells #[.int .i64 a, .int .i64 b] 23) (.cells #[.int .i64 0, .int .i64 0] 23)
  have T := (c2_new w (.int .i64 a) (.int .i64 b) 23).alc (.cells #[.int .i64 0, .int .i64 0] 23)
  have Z := c2_new (w.alloc (.cells #[.int .i64 a, .int .i64 b] 23)) (.int .i64 0) (.int .i64 0) 23
  rw [show (w.alloc (.cells #[.int .i64 a, .int .i64 b] 23)).heap.size = w.heap.size + 1 by simp] at Z
  generalize (w.alloc (.cells #[.int .i64 a, .int .i64 b] 23)).alloc (.cells #[.int .i64 0, .int .i64 0] 23) = w0 at *
  refine (pvalid_any _ _ _).mono ?_
  rintro e w1 ⟨rfl, hb⟩
  replace B := thn B hb
  replace T := T.next hb
  replace Z := Z.next hb
  clear hb
  rw [HV.out]
  go_wp2_with fail
  refine (HS.out _).mono ?_
  rintro e w' ⟨rfl, rfl⟩
  go_wp2_with fail
  refine (HF.out _).mono ?_
  rintro e w2 ⟨rfl, hd⟩
  have hb := hd.below w1.heap.size
  replace B := thn B hb
  replace T := T.next hb
  replace Z := Z.next hb
  clear hb hd
  go_wp2_with fail
  refine (HC.out _).mono ?_
  rintro e w' ⟨rfl, rfl⟩
  go_wp2_with fail
  refine (HG.out _).mono ?_
  rintro e w3 ⟨rfl, hd⟩
  have hb := hd.below w2.heap.size
  replace B := thn B hb
  replace T := T.next hb
  replace Z := Z.next hb
  clear hb hd
  have f0 : IntKind.i64.wrap (a + X) = a + X := IntWalk.i64_in _ (by omega)
  have f1 : IntKind.i64.wrap (b + Y) = b + Y := IntWalk.i64_in _ (by omega)
  obtain ⟨t0, t1, t2, t3, tl⟩ := id T
  have Q := c2_new w3 (.int .i64 (a + X)) (.int .i64 (b + Y)) 23
  replace B := alc B (.cells #[.int .i64 (a + X), .int .i64 (b + Y)] 23)
  replace Z := Z.alc (.cells #[.int .i64 (a + X), .int .i64 (b + Y)] 23)
  obtain ⟨q0, q1, q2, q3, ql⟩ := id Q
  go_wp2_with fail
  clear q0 q1 q2 q3 ql t0 t1 t2 t3 tl
  refine (pvalid_any _ _ _).mono ?_
  rintro e y1 ⟨rfl, hb⟩
  replace B := thn B hb
  replace Z := Z.next hb
  replace Q := Q.next hb
  clear hb
  rw [HQ.out]
  obtain ⟨q0, q1, q2, q3, ql⟩ := id Q
  obtain ⟨z0, z1, z2, z3, zl⟩ := id Z
  go_wp2
  exact bodyPost_ret (v := .tuple #[ptV (0) (0), .int .i64 2]) (by simp [results, Try.results22, go_sem, *]) rfl ⟨rfl, below_put2 B (b := w.heap.size + 1) (Nat.le_succ _) _ _⟩
set_option maxHeartbeats 4000000 in
theorem ray_d (a b c d : Int) (w : World) (h1 : pvd a b = true) (h2 : ¬ d > 8000000) (h3 : ¬ d < -8000000) (h4 : pvd (a + qnear (d * sn c) 1073741824) (b + qnear (d * cn c) 1073741824) = true) :
    Calls Try.prog 22 #[ptV a b, .int .i64 c, .int .i64 d] w fun e w' => e = Pt3 (a + qnear (d * sn c) 1073741824, b + qnear (d * cn c) 1073741824, 0) ∧ Below w.heap.size w w' := by
  have HR := Lib.hid (rfl : (a + qnear (d * sn c) 1073741824, b + qnear (d * cn c) 1073741824, (0 : Int)) = (a + qnear (d * sn c) 1073741824, b + qnear (d * cn c) 1073741824, 0))
  generalize hT : (a + qnear (d * sn c) 1073741824, b + qnear (d * cn c) 1073741824, (0 : Int)) = R
  replace HR := Lib.hid hT
  clear hT
  have ⟨p1, p2⟩ := pvd_of h1
  have HV := Lib.hid h1
  have HQ := Lib.hid h4
  clear h1 h4
  have s0 := ds_b (d := d) (x := sn c) (by omega) (by omega) (sn_b c).1 (sn_b c).2
  have s1 := ds_b (d := d) (x := cn c) (by omega) (by omega) (cn_b c).1 (cn_b c).2
  have q0 := qn_b s0.1 s0.2
  have q1 := qn_b s1.1 s1.2
  have HS := Lib.hid (fun w => sin_any c w)
  have HC := Lib.hid (fun w => cos_any c w)
  have HF := Lib.hid (fun w => fround_any (d * sn c) 1073741824 w (by omega) (by omega) (by omega) (by omega))
  have HG := Lib.hid (fun w => fround_any (d * cn c) 1073741824 w (by omega) (by omega) (by omega) (by omega))
  have e0 : IntKind.i64.wrap (d * sn c) = d * sn c := IntWalk.i64_in _ (by omega)
  have e1 : IntKind.i64.wrap (d * cn c) = d * cn c := IntWalk.i64_in _ (by omega)
  generalize sn c = SN at *
  generalize cn c = CN at *
  generalize qnear (d * SN) 1073741824 = X at *
  generalize qnear (d * CN) 1073741824 = Y at *
  clear s0 s1
  go_enter Try.func22, Try.ntmps22
  go_wp2_with fail
  have B := below_alloc2 w (.cells #[.int .i64 a, .int .i64 b] 23) (.cells #[.int .i64 0, .int .i64 0] 23)
  have T := (c2_new w (.int .i64 a) (.int .i64 b) 23).alc (.cells #[.int .i64 0, .int .i64 0] 23)
  have Z := c2_new (w.alloc (.cells #[.int .i64 a, .int .i64 b] 23)) (.int .i64 0) (.int .i64 0) 23
  rw [show (w.alloc (.cells #[.int .i64 a, .int .i64 b] 23)).heap.size = w.heap.size + 1 by simp] at Z
  generalize (w.alloc (.cells #[.int .i64 a, .int .i64 b] 23)).alloc (.cells #[.int .i64 0, .int .i64 0] 23) = w0 at *
  refine (pvalid_any _ _ _).mono ?_
  rintro e w1 ⟨rfl, hb⟩
  replace B := thn B hb
  replace T := T.next hb
  replace Z := Z.next hb
  clear hb
  rw [HV.out]
  go_wp2_with fail
  refine (HS.out _).mono ?_
  rintro e w' ⟨rfl, rfl⟩
  go_wp2_with fail
  refine (HF.out _).mono ?_
  rintro e w2 ⟨rfl, hd⟩
  have hb := hd.below w1.heap.size
  replace B := thn B hb
  replace T := T.next hb
  replace Z := Z.next hb
  clear hb hd
  go_wp2_with fail
  refine (HC.out _).mono ?_
  rintro e w' ⟨rfl, rfl⟩
  go_wp2_with fail
  refine (HG.out _).mono ?_
  rintro e w3 ⟨rfl, hd⟩
  have hb := hd.below w2.heap.size
  replace B := thn B hb
  replace T := T.next hb
  replace Z := Z.next hb
  clear hb hd
  have f0 : IntKind.i64.wrap (a + X) = a + X := IntWalk.i64_in _ (by omega)
  have f1 : IntKind.i64.wrap (b + Y) = b + Y := IntWalk.i64_in _ (by omega)
  obtain ⟨t0, t1, t2, t3, tl⟩ := id T
  have Q := c2_new w3 (.int .i64 (a + X)) (.int .i64 (b + Y)) 23
  replace B := alc B (.cells #[.int .i64 (a + X), .int .i64 (b + Y)] 23)
  replace Z := Z.alc (.cells #[.int .i64 (a + X), .int .i64 (b + Y)] 23)
  obtain ⟨q0, q1, q2, q3, ql⟩ := id Q
  go_wp2_with fail
  clear q0 q1 q2 q3 ql t0 t1 t2 t3 tl
  refine (pvalid_any _ _ _).mono ?_
  rintro e y1 ⟨rfl, hb⟩
  replace B := thn B hb
  replace Z := Z.next hb
  replace Q := Q.next hb
  clear hb
  rw [HQ.out]
  obtain ⟨q0, q1, q2, q3, ql⟩ := id Q
  obtain ⟨z0, z1, z2, z3, zl⟩ := id Z
  go_wp2
  exact bodyPost_ret (v := .tuple #[ptV ((a + X)) ((b + Y)), .int .i64 0]) (by simp [results, Try.results22, go_sem, *]) rfl ⟨pt3h HR.out, below_put2 B (b := w.heap.size + 1) (Nat.le_succ _) _ _⟩
theorem ray_any (a b c d : Int) (w : World) :
    Calls Try.prog 22 #[ptV a b, .int .i64 c, .int .i64 d] w fun e w' => e = Pt3 (rayv a b c d) ∧ Below w.heap.size w w' := by
  unfold rayv
  cases h1 : pvd a b
  · exact ray_a a b c d w h1
  by_cases h2 : d > 8000000
  · rw [if_pos rfl, if_pos (.inl h2)]; exact ray_bp a b c d w h1 h2
  by_cases h3 : d < -8000000
  · rw [if_pos rfl, if_pos (.inr h3)]; exact ray_bn a b c d w h1 h2 h3
  · rw [if_pos rfl, if_neg (by omega)]
    cases h4 : pvd (a + qnear (d * sn c) 1073741824) (b + qnear (d * cn c) 1073741824)
    · exact ray_c a b c d w h1 h2 h3 h4
    · exact ray_d a b c d w h1 h2 h3 h4
end Go.Proofs.Ytpgpdglmgpjhlaa
