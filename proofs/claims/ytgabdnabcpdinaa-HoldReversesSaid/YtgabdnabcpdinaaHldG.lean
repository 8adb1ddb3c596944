/- The points of a pattern: the reference. -/
import Derived.Test.YtgabdnabcpdinaaHldF
namespace Go.Proofs.Ytgabdnabcpdinaa
open Go.RowKit Go.Joins Fdk
set_option linter.unusedVariables false
abbrev shpR (a b p1x p1y p2x p2y p3x p3y c1x c1y c2x c2y u s : Int) : Value := .agg #[.int .i64 a, .int .i64 b, .int .i64 p1x, .int .i64 p1y, .int .i64 p2x, .int .i64 p2y, .int .i64 p3x, .int .i64 p3y, .int .i64 c1x, .int .i64 c1y, .int .i64 c2x, .int .i64 c2y, .int .i64 u, .int .i64 s]
def rng (i l r : Int) : Bool := decide (0 ≤ i) && (decide (i < 129600000) && (decide (1 ≤ l) && (decide (l ≤ 2000000) && (decide (1 ≤ r) && decide (r ≤ 2000000)))))
theorem rng_of {i l r : Int} (h : rng i l r = true) : (0 ≤ i ∧ i < 129600000) ∧ (1 ≤ l ∧ l ≤ 2000000) ∧ 1 ≤ r ∧ r ≤ 2000000 := by
  simp only [rng, Bool.and_eq_true, decide_eq_true_eq] at h; omega
theorem rng_cases {i l r : Int} (h : rng i l r = false) : (i < 0) ∨ ((¬ i < 0) ∧ i ≥ 129600000) ∨ ((¬ i < 0) ∧ (¬ i ≥ 129600000) ∧ l < 1) ∨ ((¬ i < 0) ∧ (¬ i ≥ 129600000) ∧ (¬ l < 1) ∧ l > 2000000) ∨ ((¬ i < 0) ∧ (¬ i ≥ 129600000) ∧ (¬ l < 1) ∧ (¬ l > 2000000) ∧ r < 1) ∨ ((¬ i < 0) ∧ (¬ i ≥ 129600000) ∧ (¬ l < 1) ∧ (¬ l > 2000000) ∧ (¬ r < 1) ∧ r > 2000000) := by
  simp only [rng, Bool.and_eq_false_iff, decide_eq_false_iff_not] at h
  omega
set_option maxRecDepth 8000 in
set_option maxHeartbeats 16000000 in
theorem pts_a (a b i k l r : Int) (w : World) (h : pvd a b = false) :
    Calls Try.prog 26 #[ptV a b, .int .i64 i, .int .u8 k, .int .i64 l, .int .i64 r] w fun e w' => e = .returned (.tuple #[shpR 0 0 0 0 0 0 0 0 0 0 0 0 0 0, .int .i64 1]) ∧ Below w.heap.size w w' := by
  have HV := Lib.hid h
  clear h
  go_enter Try.func26, Try.ntmps26
  go_wp2_with fail
  have B := below_alloc2 w (.cells #[.int .i64 a, .int .i64 b] 30) (.cells #[.int .i64 0, .int .i64 0, .int .i64 0, .int .i64 0, .int .i64 0, .int .i64 0, .int .i64 0, .int .i64 0, .int .i64 0, .int .i64 0, .int .i64 0, .int .i64 0, .int .i64 0, .int .i64 0] 56)
  have T := (c2_new w (.int .i64 a) (.int .i64 b) 30).alc (.cells #[.int .i64 0, .int .i64 0, .int .i64 0, .int .i64 0, .int .i64 0, .int .i64 0, .int .i64 0, .int .i64 0, .int .i64 0, .int .i64 0, .int .i64 0, .int .i64 0, .int .i64 0, .int .i64 0] 56)
  have Z := c14_new (w.alloc (.cells #[.int .i64 a, .int .i64 b] 30)) (.int .i64 0) (.int .i64 0) (.int .i64 0) (.int .i64 0) (.int .i64 0) (.int .i64 0) (.int .i64 0) (.int .i64 0) (.int .i64 0) (.int .i64 0) (.int .i64 0) (.int .i64 0) (.int .i64 0) (.int .i64 0) 56
  rw [show (w.alloc (.cells #[.int .i64 a, .int .i64 b] 30)).heap.size = w.heap.size + 1 by simp] at Z
  generalize (w.alloc (.cells #[.int .i64 a, .int .i64 b] 30)).alloc (.cells #[.int .i64 0, .int .i64 0, .int .i64 0, .int .i64 0, .int .i64 0, .int .i64 0, .int .i64 0, .int .i64 0, .int .i64 0, .int .i64 0, .int .i64 0, .int .i64 0, .int .i64 0, .int .i64 0] 56) = w0 at *
  refine (rpvalid_any _ _ _).mono ?_
  rintro e w1 ⟨rfl, hb⟩
  rw [HV.out]
  replace B := thn B hb
  replace T := T.next hb
  replace Z := Z.next hb
  clear hb
  obtain ⟨z0, z1, z2, z3, z4, z5, z6, z7, z8, z9, z10, z11, z12, z13, z14, z15, z16, z17, z18, z19, z20, z21, z22, z23, z24, z25, z26, z27, zl⟩ := id Z
  go_wp2
  exact bodyPost_ret (v := .tuple #[shpR 0 0 0 0 0 0 0 0 0 0 0 0 0 0, .int .i64 1]) (by simp [results, Try.results26, go_sem, *]) rfl ⟨rfl, below_put14 B (b := w.heap.size + 1) (Nat.le_succ _) (.int .i64 0) (.int .i64 0) (.int .i64 0) (.int .i64 0) (.int .i64 0) (.int .i64 0) (.int .i64 0) (.int .i64 0) (.int .i64 0) (.int .i64 0) (.int .i64 0) (.int .i64 0) (.int .i64 0) (.int .i64 0)⟩
set_option maxRecDepth 8000 in
set_option maxHeartbeats 16000000 in
theorem pts_b (a b i k l r : Int) (w : World) (h : pvd a b = true) (k1 : ¬ k = 1) (k2 : ¬ k = 2) :
    Calls Try.prog 26 #[ptV a b, .int .i64 i, .int .u8 k, .int .i64 l, .int .i64 r] w fun e w' => e = .returned (.tuple #[shpR 0 0 0 0 0 0 0 0 0 0 0 0 0 0, .int .i64 1]) ∧ Below w.heap.size w w' := by
  have HV := Lib.hid h
  clear h
  have n1 : (k != 1) = true := by simp [k1]
  have n2 : (k != 2) = true := by simp [k2]
  go_enter Try.func26, Try.ntmps26
  go_wp2_with fail
  have B := below_alloc2 w (.cells #[.int .i64 a, .int .i64 b] 30) (.cells #[.int .i64 0, .int .i64 0, .int .i64 0, .int .i64 0, .int .i64 0, .int .i64 0, .int .i64 0, .int .i64 0, .int .i64 0, .int .i64 0, .int .i64 0, .int .i64 0, .int .i64 0, .int .i64 0] 56)
  have T := (c2_new w (.int .i64 a) (.int .i64 b) 30).alc (.cells #[.int .i64 0, .int .i64 0, .int .i64 0, .int .i64 0, .int .i64 0, .int .i64 0, .int .i64 0, .int .i64 0, .int .i64 0, .int .i64 0, .int .i64 0, .int .i64 0, .int .i64 0, .int .i64 0] 56)
  have Z := c14_new (w.alloc (.cells #[.int .i64 a, .int .i64 b] 30)) (.int .i64 0) (.int .i64 0) (.int .i64 0) (.int .i64 0) (.int .i64 0) (.int .i64 0) (.int .i64 0) (.int .i64 0) (.int .i64 0) (.int .i64 0) (.int .i64 0) (.int .i64 0) (.int .i64 0) (.int .i64 0) 56
  rw [show (w.alloc (.cells #[.int .i64 a, .int .i64 b] 30)).heap.size = w.heap.size + 1 by simp] at Z
  generalize (w.alloc (.cells #[.int .i64 a, .int .i64 b] 30)).alloc (.cells #[.int .i64 0, .int .i64 0, .int .i64 0, .int .i64 0, .int .i64 0, .int .i64 0, .int .i64 0, .int .i64 0, .int .i64 0, .int .i64 0, .int .i64 0, .int .i64 0, .int .i64 0, .int .i64 0] 56) = w0 at *
  refine (rpvalid_any _ _ _).mono ?_
  rintro e w1 ⟨rfl, hb⟩
  rw [HV.out]
  replace B := thn B hb
  replace T := T.next hb
  replace Z := Z.next hb
  clear hb
  obtain ⟨z0, z1, z2, z3, z4, z5, z6, z7, z8, z9, z10, z11, z12, z13, z14, z15, z16, z17, z18, z19, z20, z21, z22, z23, z24, z25, z26, z27, zl⟩ := id Z
  go_wp2
  exact bodyPost_ret (v := .tuple #[shpR 0 0 0 0 0 0 0 0 0 0 0 0 0 0, .int .i64 1]) (by simp [results, Try.results26, go_sem, *]) rfl ⟨rfl, below_put14 B (b := w.heap.size + 1) (Nat.le_succ _) (.int .i64 0) (.int .i64 0) (.int .i64 0) (.int .i64 0) (.int .i64 0) (.int .i64 0) (.int .i64 0) (.int .i64 0) (.int .i64 0) (.int .i64 0) (.int .i64 0) (.int .i64 0) (.int .i64 0) (.int .i64 0)⟩
set_option maxRecDepth 8000 in
set_option maxHeartbeats 16000000 in
theorem pts_r10 (a b i l r : Int) (w : World) (h : pvd a b = true)  (g0 : i < 0) :
    Calls Try.prog 26 #[ptV a b, .int .i64 i, .int .u8 1, .int .i64 l, .int .i64 r] w fun e w' => e = .returned (.tuple #[shpR 0 0 0 0 0 0 0 0 0 0 0 0 0 0, .int .i64 2]) ∧ Below w.heap.size w w' := by
  have HV := Lib.hid h
  clear h
  go_enter Try.func26, Try.ntmps26
  go_wp2_with fail
  have B := below_alloc2 w (.cells #[.int .i64 a, .int .i64 b] 30) (.cells #[.int .i64 0, .int .i64 0, .int .i64 0, .int .i64 0, .int .i64 0, .int .i64 0, .int .i64 0, .int .i64 0, .int .i64 0, .int .i64 0, .int .i64 0, .int .i64 0, .int .i64 0, .int .i64 0] 56)
  have T := (c2_new w (.int .i64 a) (.int .i64 b) 30).alc (.cells #[.int .i64 0, .int .i64 0, .int .i64 0, .int .i64 0, .int .i64 0, .int .i64 0, .int .i64 0, .int .i64 0, .int .i64 0, .int .i64 0, .int .i64 0, .int .i64 0, .int .i64 0, .int .i64 0] 56)
  have Z := c14_new (w.alloc (.cells #[.int .i64 a, .int .i64 b] 30)) (.int .i64 0) (.int .i64 0) (.int .i64 0) (.int .i64 0) (.int .i64 0) (.int .i64 0) (.int .i64 0) (.int .i64 0) (.int .i64 0) (.int .i64 0) (.int .i64 0) (.int .i64 0) (.int .i64 0) (.int .i64 0) 56
  rw [show (w.alloc (.cells #[.int .i64 a, .int .i64 b] 30)).heap.size = w.heap.size + 1 by simp] at Z
  generalize (w.alloc (.cells #[.int .i64 a, .int .i64 b] 30)).alloc (.cells #[.int .i64 0, .int .i64 0, .int .i64 0, .int .i64 0, .int .i64 0, .int .i64 0, .int .i64 0, .int .i64 0, .int .i64 0, .int .i64 0, .int .i64 0, .int .i64 0, .int .i64 0, .int .i64 0] 56) = w0 at *
  refine (rpvalid_any _ _ _).mono ?_
  rintro e w1 ⟨rfl, hb⟩
  rw [HV.out]
  replace B := thn B hb
  replace T := T.next hb
  replace Z := Z.next hb
  clear hb
  obtain ⟨z0, z1, z2, z3, z4, z5, z6, z7, z8, z9, z10, z11, z12, z13, z14, z15, z16, z17, z18, z19, z20, z21, z22, z23, z24, z25, z26, z27, zl⟩ := id Z
  go_wp2
  exact bodyPost_ret (v := .tuple #[shpR 0 0 0 0 0 0 0 0 0 0 0 0 0 0, .int .i64 2]) (by simp [results, Try.results26, go_sem, *]) rfl ⟨rfl, below_put14 B (b := w.heap.size + 1) (Nat.le_succ _) (.int .i64 0) (.int .i64 0) (.int .i64 0) (.int .i64 0) (.int .i64 0) (.int .i64 0) (.int .i64 0) (.int .i64 0) (.int .i64 0) (.int .i64 0) (.int .i64 0) (.int .i64 0) (.int .i64 0) (.int .i64 0)⟩
set_option maxRecDepth 8000 in
set_option maxHeartbeats 16000000 in
theorem pts_r11 (a b i l r : Int) (w : World) (h : pvd a b = true) (g0 : ¬ i < 0) (g1 : i ≥ 129600000) :
    Calls Try.prog 26 #[ptV a b, .int .i64 i, .int .u8 1, .int .i64 l, .int .i64 r] w fun e w' => e = .returned (.tuple #[shpR 0 0 0 0 0 0 0 0 0 0 0 0 0 0, .int .i64 2]) ∧ Below w.heap.size w w' := by
  have HV := Lib.hid h
  clear h
  go_enter Try.func26, Try.ntmps26
  go_wp2_with fail
  have B := below_alloc2 w (.cells #[.int .i64 a, .int .i64 b] 30) (.cells #[.int .i64 0, .int .i64 0, .int .i64 0, .int .i64 0, .int .i64 0, .int .i64 0, .int .i64 0, .int .i64 0, .int .i64 0, .int .i64 0, .int .i64 0, .int .i64 0, .int .i64 0, .int .i64 0] 56)
  have T := (c2_new w (.int .i64 a) (.int .i64 b) 30).alc (.cells #[.int .i64 0, .int .i64 0, .int .i64 0, .int .i64 0, .int .i64 0, .int .i64 0, .int .i64 0, .int .i64 0, .int .i64 0, .int .i64 0, .int .i64 0, .int .i64 0, .int .i64 0, .int .i64 0] 56)
  have Z := c14_new (w.alloc (.cells #[.int .i64 a, .int .i64 b] 30)) (.int .i64 0) (.int .i64 0) (.int .i64 0) (.int .i64 0) (.int .i64 0) (.int .i64 0) (.int .i64 0) (.int .i64 0) (.int .i64 0) (.int .i64 0) (.int .i64 0) (.int .i64 0) (.int .i64 0) (.int .i64 0) 56
  rw [show (w.alloc (.cells #[.int .i64 a, .int .i64 b] 30)).heap.size = w.heap.size + 1 by simp] at Z
  generalize (w.alloc (.cells #[.int .i64 a, .int .i64 b] 30)).alloc (.cells #[.int .i64 0, .int .i64 0, .int .i64 0, .int .i64 0, .int .i64 0, .int .i64 0, .int .i64 0, .int .i64 0, .int .i64 0, .int .i64 0, .int .i64 0, .int .i64 0, .int .i64 0, .int .i64 0] 56) = w0 at *
  refine (rpvalid_any _ _ _).mono ?_
  rintro e w1 ⟨rfl, hb⟩
  rw [HV.out]
  replace B := thn B hb
  replace T := T.next hb
  replace Z := Z.next hb
  clear hb
  obtain ⟨z0, z1, z2, z3, z4, z5, z6, z7, z8, z9, z10, z11, z12, z13, z14, z15, z16, z17, z18, z19, z20, z21, z22, z23, z24, z25, z26, z27, zl⟩ := id Z
  go_wp2
  exact bodyPost_ret (v := .tuple #[shpR 0 0 0 0 0 0 0 0 0 0 0 0 0 0, .int .i64 2]) (by simp [results, Try.results26, go_sem, *]) rfl ⟨rfl, below_put14 B (b := w.heap.size + 1) (Nat.le_succ _) (.int .i64 0) (.int .i64 0) (.int .i64 0) (.int .i64 0) (.int .i64 0) (.int .i64 0) (.int .i64 0) (.int .i64 0) (.int .i64 0) (.int .i64 0) (.int .i64 0) (.int .i64 0) (.int .i64 0) (.int .i64 0)⟩
set_option maxRecDepth 8000 in
set_option maxHeartbeats 16000000 in
theorem pts_r12 (a b i l r : Int) (w : World) (h : pvd a b = true) (g0 : ¬ i < 0) (g1 : ¬ i ≥ 129600000) (g2 : l < 1) :
    Calls Try.prog 26 #[ptV a b, .int .i64 i, .int .u8 1, .int .i64 l, .int .i64 r] w fun e w' => e = .returned (.tuple #[shpR 0 0 0 0 0 0 0 0 0 0 0 0 0 0, .int .i64 2]) ∧ Below w.heap.size w w' := by
  have HV := Lib.hid h
  clear h
  go_enter Try.func26, Try.ntmps26
  go_wp2_with fail
  have B := below_alloc2 w (.cells #[.int .i64 a, .int .i64 b] 30) (.cells #[.int .i64 0, .int .i64 0, .int .i64 0, .int .i64 0, .int .i64 0, .int .i64 0, .int .i64 0, .int .i64 0, .int .i64 0, .int .i64 0, .int .i64 0, .int .i64 0, .int .i64 0, .int .i64 0] 56)
  have T := (c2_new w (.int .i64 a) (.int .i64 b) 30).alc (.cells #[.int .i64 0, .int .i64 0, .int .i64 0, .int .i64 0, .int .i64 0, .int .i64 0, .int .i64 0, .int .i64 0, .int .i64 0, .int .i64 0, .int .i64 0, .int .i64 0, .int .i64 0, .int .i64 0] 56)
  have Z := c14_new (w.alloc (.cells #[.int .i64 a, .int .i64 b] 30)) (.int .i64 0) (.int .i64 0) (.int .i64 0) (.int .i64 0) (.int .i64 0) (.int .i64 0) (.int .i64 0) (.int .i64 0) (.int .i64 0) (.int .i64 0) (.int .i64 0) (.int .i64 0) (.int .i64 0) (.int .i64 0) 56
  rw [show (w.alloc (.cells #[.int .i64 a, .int .i64 b] 30)).heap.size = w.heap.size + 1 by simp] at Z
  generalize (w.alloc (.cells #[.int .i64 a, .int .i64 b] 30)).alloc (.cells #[.int .i64 0, .int .i64 0, .int .i64 0, .int .i64 0, .int .i64 0, .int .i64 0, .int .i64 0, .int .i64 0, .int .i64 0, .int .i64 0, .int .i64 0, .int .i64 0, .int .i64 0, .int .i64 0] 56) = w0 at *
  refine (rpvalid_any _ _ _).mono ?_
  rintro e w1 ⟨rfl, hb⟩
  rw [HV.out]
  replace B := thn B hb
  replace T := T.next hb
  replace Z := Z.next hb
  clear hb
  obtain ⟨z0, z1, z2, z3, z4, z5, z6, z7, z8, z9, z10, z11, z12, z13, z14, z15, z16, z17, z18, z19, z20, z21, z22, z23, z24, z25, z26, z27, zl⟩ := id Z
  go_wp2
  exact bodyPost_ret (v := .tuple #[shpR 0 0 0 0 0 0 0 0 0 0 0 0 0 0, .int .i64 2]) (by simp [results, Try.results26, go_sem, *]) rfl ⟨rfl, below_put14 B (b := w.heap.size + 1) (Nat.le_succ _) (.int .i64 0) (.int .i64 0) (.int .i64 0) (.int .i64 0) (.int .i64 0) (.int .i64 0) (.int .i64 0) (.int .i64 0) (.int .i64 0) (.int .i64 0) (.int .i64 0) (.int .i64 0) (.int .i64 0) (.int .i64 0)⟩
set_option maxRecDepth 8000 in
set_option maxHeartbeats 16000000 in
theorem pts_r13 (a b i l r : Int) (w : World) (h : pvd a b = true) (g0 : ¬ i < 0) (g1 : ¬ i ≥ 129600000) (g2 : ¬ l < 1) (g3 : l > 2000000) :
    Calls Try.prog 26 #[ptV a b, .int .i64 i, .int .u8 1, .int .i64 l, .int .i64 r] w fun e w' => e = .returned (.tuple #[shpR 0 0 0 0 0 0 0 0 0 0 0 0 0 0, .int .i64 2]) ∧ Below w.heap.size w w' := by
  have HV := Lib.hid h
  clear h
  go_enter Try.func26, Try.ntmps26
  go_wp2_with fail
  have B := below_alloc2 w (.cells #[.int .i64 a, .int .i64 b] 30) (.cells #[.int .i64 0, .int .i64 0, .int .i64 0, .int .i64 0, .int .i64 0, .int .i64 0, .int .i64 0, .int .i64 0, .int .i64 0, .int .i64 0, .int .i64 0, .int .i64 0, .int .i64 0, .int .i64 0] 56)
  have T := (c2_new w (.int .i64 a) (.int .i64 b) 30).alc (.cells #[.int .i64 0, .int .i64 0, .int .i64 0, .int .i64 0, .int .i64 0, .int .i64 0, .int .i64 0, .int .i64 0, .int .i64 0, .int .i64 0, .int .i64 0, .int .i64 0, .int .i64 0, .int .i64 0] 56)
  have Z := c14_new (w.alloc (.cells #[.int .i64 a, .int .i64 b] 30)) (.int .i64 0) (.int .i64 0) (.int .i64 0) (.int .i64 0) (.int .i64 0) (.int .i64 0) (.int .i64 0) (.int .i64 0) (.int .i64 0) (.int .i64 0) (.int .i64 0) (.int .i64 0) (.int .i64 0) (.int .i64 0) 56
  rw [show (w.alloc (.cells #[.int .i64 a, .int .i64 b] 30)).heap.size = w.heap.size + 1 by simp] at Z
  generalize (w.alloc (.cells #[.int .i64 a, .int .i64 b] 30)).alloc (.cells #[.int .i64 0, .int .i64 0, .int .i64 0, .int .i64 0, .int .i64 0, .int .i64 0, .int .i64 0, .int .i64 0, .int .i64 0, .int .i64 0, .int .i64 0, .int .i64 0, .int .i64 0, .int .i64 0] 56) = w0 at *
  refine (rpvalid_any _ _ _).mono ?_
  rintro e w1 ⟨rfl, hb⟩
  rw [HV.out]
  replace B := thn B hb
  replace T := T.next hb
  replace Z := Z.next hb
  clear hb
  obtain ⟨z0, z1, z2, z3, z4, z5, z6, z7, z8, z9, z10, z11, z12, z13, z14, z15, z16, z17, z18, z19, z20, z21, z22, z23, z24, z25, z26, z27, zl⟩ := id Z
  go_wp2
  exact bodyPost_ret (v := .tuple #[shpR 0 0 0 0 0 0 0 0 0 0 0 0 0 0, .int .i64 2]) (by simp [results, Try.results26, go_sem, *]) rfl ⟨rfl, below_put14 B (b := w.heap.size + 1) (Nat.le_succ _) (.int .i64 0) (.int .i64 0) (.int .i64 0) (.int .i64 0) (.int .i64 0) (.int .i64 0) (.int .i64 0) (.int .i64 0) (.int .i64 0) (.int .i64 0) (.int .i64 0) (.int .i64 0) (.int .i64 0) (.int .i64 0)⟩
set_option maxRecDepth 8000 in
set_option maxHeartbeats 16000000 in
theorem pts_r14 (a b i l r : Int) (w : World) (h : pvd a b = true) (g0 : ¬ i < 0) (g1 : ¬ i ≥ 129600000) (g2 : ¬ l < 1) (g3 : ¬ l > 2000000) (g4 : r < 1) :
    Calls Try.prog 26 #[ptV a b, .int .i64 i, .int .u8 1, .int .i64 l, .int .i64 r] w fun e w' => e = .returned (.tuple #[shpR 0 0 0 0 0 0 0 0 0 0 0 0 0 0, .int .i64 2]) ∧ Below w.heap.size w w' := by
  have HV := Lib.hid h
  clear h
  go_enter Try.func26, Try.ntmps26
  go_wp2_with fail
  have B := below_alloc2 w (.cells #[.int .i64 a, .int .i64 b] 30) (.cells #[.int .i64 0, .int .i64 0, .int .i64 0, .int .i64 0, .int .i64 0, .int .i64 0, .int .i64 0, .int .i64 0, .int .i64 0, .int .i64 0, .int .i64 0, .int .i64 0, .int .i64 0, .int .i64 0] 56)
  have T := (c2_new w (.int .i64 a) (.int .i64 b) 30).alc (.cells #[.int .i64 0, .int .i64 0, .int .i64 0, .int .i64 0, .int .i64 0, .int .i64 0, .int .i64 0, .int .i64 0, .int .i64 0, .int .i64 0, .int .i64 0, .int .i64 0, .int .i64 0, .int .i64 0] 56)
  have Z := c14_new (w.alloc (.cells #[.int .i64 a, .int .i64 b] 30)) (.int .i64 0) (.int .i64 0) (.int .i64 0) (.int .i64 0) (.int .i64 0) (.int .i64 0) (.int .i64 0) (.int .i64 0) (.int .i64 0) (.int .i64 0) (.int .i64 0) (.int .i64 0) (.int .i64 0) (.int .i64 0) 56
  rw [show (w.alloc (.cells #[.int .i64 a, .int .i64 b] 30)).heap.size = w.heap.size + 1 by simp] at Z
  generalize (w.alloc (.cells #[.int .i64 a, .int .i64 b] 30)).alloc (.cells #[.int .i64 0, .int .i64 0, .int .i64 0, .int .i64 0, .int .i64 0, .int .i64 0, .int .i64 0, .int .i64 0, .int .i64 0, .int .i64 0, .int .i64 0, .int .i64 0, .int .i64 0, .int .i64 0] 56) = w0 at *
  refine (rpvalid_any _ _ _).mono ?_
  rintro e w1 ⟨rfl, hb⟩
  rw [HV.out]
  replace B := thn B hb
  replace T := T.next hb
  replace Z := Z.next hb
  clear hb
  obtain ⟨z0, z1, z2, z3, z4, z5, z6, z7, z8, z9, z10, z11, z12, z13, z14, z15, z16, z17, z18, z19, z20, z21, z22, z23, z24, z25, z26, z27, zl⟩ := id Z
  go_wp2
  exact bodyPost_ret (v := .tuple #[shpR 0 0 0 0 0 0 0 0 0 0 0 0 0 0, .int .i64 2]) (by simp [results, Try.results26, go_sem, *]) rfl ⟨rfl, below_put14 B (b := w.heap.size + 1) (Nat.le_succ _) (.int .i64 0) (.int .i64 0) (.int .i64 0) (.int .i64 0) (.int .i64 0) (.int .i64 0) (.int .i64 0) (.int .i64 0) (.int .i64 0) (.int .i64 0) (.int .i64 0) (.int .i64 0) (.int .i64 0) (.int .i64 0)⟩
set_option maxRecDepth 8000 in
set_option maxHeartbeats 16000000 in
theorem pts_r15 (a b i l r : Int) (w : World) (h : pvd a b = true) (g0 : ¬ i < 0) (g1 : ¬ i ≥ 129600000) (g2 : ¬ l < 1) (g3 : ¬ l > 2000000) (g4 : ¬ r < 1) (g5 : r > 2000000) :
    Calls Try.prog 26 #[ptV a b, .int .i64 i, .int .u8 1, .int .i64 l, .int .i64 r] w fun e w' => e = .returned (.tuple #[shpR 0 0 0 0 0 0 0 0 0 0 0 0 0 0, .int .i64 2]) ∧ Below w.heap.size w w' := by
  have HV := Lib.hid h
  clear h
  go_enter Try.func26, Try.ntmps26
  go_wp2_with fail
  have B := below_alloc2 w (.cells #[.int .i64 a, .int .i64 b] 30) (.cells #[.int .i64 0, .int .i64 0, .int .i64 0, .int .i64 0, .int .i64 0, .int .i64 0, .int .i64 0, .int .i64 0, .int .i64 0, .int .i64 0, .int .i64 0, .int .i64 0, .int .i64 0, .int .i64 0] 56)
  have T := (c2_new w (.int .i64 a) (.int .i64 b) 30).alc (.cells #[.int .i64 0, .int .i64 0, .int .i64 0, .int .i64 0, .int .i64 0, .int .i64 0, .int .i64 0, .int .i64 0, .int .i64 0, .int .i64 0, .int .i64 0, .int .i64 0, .int .i64 0, .int .i64 0] 56)
  have Z := c14_new (w.alloc (.cells #[.int .i64 a, .int .i64 b] 30)) (.int .i64 0) (.int .i64 0) (.int .i64 0) (.int .i64 0) (.int .i64 0) (.int .i64 0) (.int .i64 0) (.int .i64 0) (.int .i64 0) (.int .i64 0) (.int .i64 0) (.int .i64 0) (.int .i64 0) (.int .i64 0) 56
  rw [show (w.alloc (.cells #[.int .i64 a, .int .i64 b] 30)).heap.size = w.heap.size + 1 by simp] at Z
  generalize (w.alloc (.cells #[.int .i64 a, .int .i64 b] 30)).alloc (.cells #[.int .i64 0, .int .i64 0, .int .i64 0, .int .i64 0, .int .i64 0, .int .i64 0, .int .i64 0, .int .i64 0, .int .i64 0, .int .i64 0, .int .i64 0, .int .i64 0, .int .i64 0, .int .i64 0] 56) = w0 at *
  refine (rpvalid_any _ _ _).mono ?_
  rintro e w1 ⟨rfl, hb⟩
  rw [HV.out]
  replace B := thn B hb
  replace T := T.next hb
  replace Z := Z.next hb
  clear hb
  obtain ⟨z0, z1, z2, z3, z4, z5, z6, z7, z8, z9, z10, z11, z12, z13, z14, z15, z16, z17, z18, z19, z20, z21, z22, z23, z24, z25, z26, z27, zl⟩ := id Z
  go_wp2
  exact bodyPost_ret (v := .tuple #[shpR 0 0 0 0 0 0 0 0 0 0 0 0 0 0, .int .i64 2]) (by simp [results, Try.results26, go_sem, *]) rfl ⟨rfl, below_put14 B (b := w.heap.size + 1) (Nat.le_succ _) (.int .i64 0) (.int .i64 0) (.int .i64 0) (.int .i64 0) (.int .i64 0) (.int .i64 0) (.int .i64 0) (.int .i64 0) (.int .i64 0) (.int .i64 0) (.int .i64 0) (.int .i64 0) (.int .i64 0) (.int .i64 0)⟩
set_option maxRecDepth 8000 in
set_option maxHeartbeats 16000000 in
theorem pts_r20 (a b i l r : Int) (w : World) (h : pvd a b = true)  (g0 : i < 0) :
    Calls Try.prog 26 #[ptV a b, .int .i64 i, .int .u8 2, .int .i64 l, .int .i64 r] w fun e w' => e = .returned (.tuple #[shpR 0 0 0 0 0 0 0 0 0 0 0 0 0 0, .int .i64 2]) ∧ Below w.heap.size w w' := by
  have HV := Lib.hid h
  clear h
  go_enter Try.func26, Try.ntmps26
  go_wp2_with fail
  have B := below_alloc2 w (.cells #[.int .i64 a, .int .i64 b] 30) (.cells #[.int .i64 0, .int .i64 0, .int .i64 0, .int .i64 0, .int .i64 0, .int .i64 0, .int .i64 0, .int .i64 0, .int .i64 0, .int .i64 0, .int .i64 0, .int .i64 0, .int .i64 0, .int .i64 0] 56)
  have T := (c2_new w (.int .i64 a) (.int .i64 b) 30).alc (.cells #[.int .i64 0, .int .i64 0, .int .i64 0, .int .i64 0, .int .i64 0, .int .i64 0, .int .i64 0, .int .i64 0, .int .i64 0, .int .i64 0, .int .i64 0, .int .i64 0, .int .i64 0, .int .i64 0] 56)
  have Z := c14_new (w.alloc (.cells #[.int .i64 a, .int .i64 b] 30)) (.int .i64 0) (.int .i64 0) (.int .i64 0) (.int .i64 0) (.int .i64 0) (.int .i64 0) (.int .i64 0) (.int .i64 0) (.int .i64 0) (.int .i64 0) (.int .i64 0) (.int .i64 0) (.int .i64 0) (.int .i64 0) 56
  rw [show (w.alloc (.cells #[.int .i64 a, .int .i64 b] 30)).heap.size = w.heap.size + 1 by simp] at Z
  generalize (w.alloc (.cells #[.int .i64 a, .int .i64 b] 30)).alloc (.cells #[.int .i64 0, .int .i64 0, .int .i64 0, .int .i64 0, .int .i64 0, .int .i64 0, .int .i64 0, .int .i64 0, .int .i64 0, .int .i64 0, .int .i64 0, .int .i64 0, .int .i64 0, .int .i64 0] 56) = w0 at *
  refine (rpvalid_any _ _ _).mono ?_
  rintro e w1 ⟨rfl, hb⟩
  rw [HV.out]
  replace B := thn B hb
  replace T := T.next hb
  replace Z := Z.next hb
  clear hb
  obtain ⟨z0, z1, z2, z3, z4, z5, z6, z7, z8, z9, z10, z11, z12, z13, z14, z15, z16, z17, z18, z19, z20, z21, z22, z23, z24, z25, z26, z27, zl⟩ := id Z
  go_wp2
  exact bodyPost_ret (v := .tuple #[shpR 0 0 0 0 0 0 0 0 0 0 0 0 0 0, .int .i64 2]) (by simp [results, Try.results26, go_sem, *]) rfl ⟨rfl, below_put14 B (b := w.heap.size + 1) (Nat.le_succ _) (.int .i64 0) (.int .i64 0) (.int .i64 0) (.int .i64 0) (.int .i64 0) (.int .i64 0) (.int .i64 0) (.int .i64 0) (.int .i64 0) (.int .i64 0) (.int .i64 0) (.int .i64 0) (.int .i64 0) (.int .i64 0)⟩
set_option maxRecDepth 8000 in
set_option maxHeartbeats 16000000 in
theorem pts_r21 (a b i l r : Int) (w : World) (h : pvd a b = true) (g0 : ¬ i < 0) (g1 : i ≥ 129600000) :
    Calls Try.prog 26 #[ptV a b, .int .i64 i, .int .u8 2, .int .i64 l, .int .i64 r] w fun e w' => e = .returned (.tuple #[shpR 0 0 0 0 0 0 0 0 0 0 0 0 0 0, .int .i64 2]) ∧ Below w.heap.size w w' := by
  have HV := Lib.hid h
  clear h
  go_enter Try.func26, Try.ntmps26
  go_wp2_with fail
  have B := below_alloc2 w (.cells #[.int .i64 a, .int .i64 b] 30) (.cells #[.int .i64 0, .int .i64 0, .int .i64 0, .int .i64 0, .int .i64 0, .int .i64 0, .int .i64 0, .int .i64 0, .int .i64 0, .int .i64 0, .int .i64 0, .int .i64 0, .int .i64 0, .int .i64 0] 56)
  have T := (c2_new w (.int .i64 a) (.int .i64 b) 30).alc (.cells #[.int .i64 0, .int .i64 0, .int .i64 0, .int .i64 0, .int .i64 0, .int .i64 0, .int .i64 0, .int .i64 0, .int .i64 0, .int .i64 0, .int .i64 0, .int .i64 0, .int .i64 0, .int .i64 0] 56)
  have Z := c14_new (w.alloc (.cells #[.int .i64 a, .int .i64 b] 30)) (.int .i64 0) (.int .i64 0) (.int .i64 0) (.int .i64 0) (.int .i64 0) (.int .i64 0) (.int .i64 0) (.int .i64 0) (.int .i64 0) (.int .i64 0) (.int .i64 0) (.int .i64 0) (.int .i64 0) (.int .i64 0) 56
  rw [show (w.alloc (.cells #[.int .i64 a, .int .i64 b] 30)).heap.size = w.heap.size + 1 by simp] at Z
  generalize (w.alloc (.cells #[.int .i64 a, .int .i64 b] 30)).alloc (.cells #[.int .i64 0, .int .i64 0, .int .i64 0, .int .i64 0, .int .i64 0, .int .i64 0, .int .i64 0, .int .i64 0, .int .i64 0, .int .i64 0, .int .i64 0, .int .i64 0, .int .i64 0, .int .i64 0] 56) = w0 at *
  refine (rpvalid_any _ _ _).mono ?_
  rintro e w1 ⟨rfl, hb⟩
  rw [HV.out]
  replace B := thn B hb
  replace T := T.next hb
  replace Z := Z.next hb
  clear hb
  obtain ⟨z0, z1, z2, z3, z4, z5, z6, z7, z8, z9, z10, z11, z12, z13, z14, z15, z16, z17, z18, z19, z20, z21, z22, z23, z24, z25, z26, z27, zl⟩ := id Z
  go_wp2
  exact bodyPost_ret (v := .tuple #[shpR 0 0 0 0 0 0 0 0 0 0 0 0 0 0, .int .i64 2]) (by simp [results, Try.results26, go_sem, *]) rfl ⟨rfl, below_put14 B (b := w.heap.size + 1) (Nat.le_succ _) (.int .i64 0) (.int .i64 0) (.int .i64 0) (.int .i64 0) (.int .i64 0) (.int .i64 0) (.int .i64 0) (.int .i64 0) (.int .i64 0) (.int .i64 0) (.int .i64 0) (.int .i64 0) (.int .i64 0) (.int .i64 0)⟩
set_option maxRecDepth 8000 in
set_option maxHeartbeats 16000000 in
theorem pts_r22 (a b i l r : Int) (w : World) (h : pvd a b = true) (g0 : ¬ i < 0) (g1 : ¬ i ≥ 129600000) (g2 : l < 1) :
    Calls Try.prog 26 #[ptV a b, .int .i64 i, .int .u8 2, .int .i64 l, .int .i64 r] w fun e w' => e = .returned (.tuple #[shpR 0 0 0 0 0 0 0 0 0 0 0 0 0 0, .int .i64 2]) ∧ Below w.heap.size w w' := by
  have HV := Lib.hid h
  clear h
  go_enter Try.func26, Try.ntmps26
  go_wp2_with fail
  have B := below_alloc2 w (.cells #[.int .i64 a, .int .i64 b] 30) (.cells #[.int .i64 0, .int .i64 0, .int .i64 0, .int .i64 0, .int .i64 0, .int .i64 0, .int .i64 0, .int .i64 0, .int .i64 0, .int .i64 0, .int .i64 0, .int .i64 0, .int .i64 0, .int .i64 0] 56)
  have T := (c2_new w (.int .i64 a) (.int .i64 b) 30).alc (.cells #[.int .i64 0, .int .i64 0, .int .i64 0, .int .i64 0, .int .i64 0, .int .i64 0, .int .i64 0, .int .i64 0, .int .i64 0, .int .i64 0, .int .i64 0, .int .i64 0, .int .i64 0, .int .i64 0] 56)
  have Z := c14_new (w.alloc (.cells #[.int .i64 a, .int .i64 b] 30)) (.int .i64 0) (.int .i64 0) (.int .i64 0) (.int .i64 0) (.int .i64 0) (.int .i64 0) (.int .i64 0) (.int .i64 0) (.int .i64 0) (.int .i64 0) (.int .i64 0) (.int .i64 0) (.int .i64 0) (.int .i64 0) 56
  rw [show (w.alloc (.cells #[.int .i64 a, .int .i64 b] 30)).heap.size = w.heap.size + 1 by simp] at Z
  generalize (w.alloc (.cells #[.int .i64 a, .int .i64 b] 30)).alloc (.cells #[.int .i64 0, .int .i64 0, .int .i64 0, .int .i64 0, .int .i64 0, .int .i64 0, .int .i64 0, .int .i64 0, .int .i64 0, .int .i64 0, .int .i64 0, .int .i64 0, .int .i64 0, .int .i64 0] 56) = w0 at *
  refine (rpvalid_any _ _ _).mono ?_
  rintro e w1 ⟨rfl, hb⟩
  rw [HV.out]
  replace B := thn B hb
  replace T := T.next hb
  replace Z := Z.next hb
  clear hb
  obtain ⟨z0, z1, z2, z3, z4, z5, z6, z7, z8, z9, z10, z11, z12, z13, z14, z15, z16, z17, z18, z19, z20, z21, z22, z23, z24, z25, z26, z27, zl⟩ := id Z
  go_wp2
  exact bodyPost_ret (v := .tuple #[shpR 0 0 0 0 0 0 0 0 0 0 0 0 0 0, .int .i64 2]) (by simp [results, Try.results26, go_sem, *]) rfl ⟨rfl, below_put14 B (b := w.heap.size + 1) (Nat.le_succ _) (.int .i64 0) (.int .i64 0) (.int .i64 0) (.int .i64 0) (.int .i64 0) (.int .i64 0) (.int .i64 0) (.int .i64 0) (.int .i64 0) (.int .i64 0) (.int .i64 0) (.int .i64 0) (.int .i64 0) (.int .i64 0)⟩
set_option maxRecDepth 8000 in
set_option maxHeartbeats 16000000 in
theorem pts_r23 (a b i l r : Int) (w : World) (h : pvd a b = true) (g0 : ¬ i < 0) (g1 : ¬ i ≥ 129600000) (g2 : ¬ l < 1) (g3 : l > 2000000) :
    Calls Try.prog 26 #[ptV a b, .int .i64 i, .int .u8 2, .int .i64 l, .int .i64 r] w fun e w' => e = .returned (.tuple #[shpR 0 0 0 0 0 0 0 0 0 0 0 0 0 0, .int .i64 2]) ∧ Below w.heap.size w w' := by
  have HV := Lib.hid h
  clear h
  go_enter Try.func26, Try.ntmps26
  go_wp2_with fail
  have B := below_alloc2 w (.cells #[.int .i64 a, .int .i64 b] 30) (.cells #[.int .i64 0, .int .i64 0, .int .i64 0, .int .i64 0, .int .i64 0, .int .i64 0, .int .i64 0, .int .i64 0, .int .i64 0, .int .i64 0, .int .i64 0, .int .i64 0, .int .i64 0, .int .i64 0] 56)
  have T := (c2_new w (.int .i64 a) (.int .i64 b) 30).alc (.cells #[.int .i64 0, .int .i64 0, .int .i64 0, .int .i64 0, .int .i64 0, .int .i64 0, .int .i64 0, .int .i64 0, .int .i64 0, .int .i64 0, .int .i64 0, .int .i64 0, .int .i64 0, .int .i64 0] 56)
  have Z := c14_new (w.alloc (.cells #[.int .i64 a, .int .i64 b] 30)) (.int .i64 0) (.int .i64 0) (.int .i64 0) (.int .i64 0) (.int .i64 0) (.int .i64 0) (.int .i64 0) (.int .i64 0) (.int .i64 0) (.int .i64 0) (.int .i64 0) (.int .i64 0) (.int .i64 0) (.int .i64 0) 56
  rw [show (w.alloc (.cells #[.int .i64 a, .int .i64 b] 30)).heap.size = w.heap.size + 1 by simp] at Z
  generalize (w.alloc (.cells #[.int .i64 a, .int .i64 b] 30)).alloc (.cells #[.int .i64 0, .int .i64 0, .int .i64 0, .int .i64 0, .int .i64 0, .int .i64 0, .int .i64 0, .int .i64 0, .int .i64 0, .int .i64 0, .int .i64 0, .int .i64 0, .int .i64 0, .int .i64 0] 56) = w0 at *
  refine (rpvalid_any _ _ _).mono ?_
  rintro e w1 ⟨rfl, hb⟩
  rw [HV.out]
  replace B := thn B hb
  replace T := T.next hb
  replace Z := Z.next hb
  clear hb
  obtain ⟨z0, z1, z2, z3, z4, z5, z6, z7, z8, z9, z10, z11, z12, z13, z14, z15, z16, z17, z18, z19, z20, z21, z22, z23, z24, z25, z26, z27, zl⟩ := id Z
  go_wp2
  exact bodyPost_ret (v := .tuple #[shpR 0 0 0 0 0 0 0 0 0 0 0 0 0 0, .int .i64 2]) (by simp [results, Try.results26, go_sem, *]) rfl ⟨rfl, below_put14 B (b := w.heap.size + 1) (Nat.le_succ _) (.int .i64 0) (.int .i64 0) (.int .i64 0) (.int .i64 0) (.int .i64 0) (.int .i64 0) (.int .i64 0) (.int .i64 0) (.int .i64 0) (.int .i64 0) (.int .i64 0) (.int .i64 0) (.int .i64 0) (.int .i64 0)⟩
set_option maxRecDepth 8000 in
set_option maxHeartbeats 16000000 in
theorem pts_r24 (a b i l r : Int) (w : World) (h : pvd a b = true) (g0 : ¬ i < 0) (g1 : ¬ i ≥ 129600000) (g2 : ¬ l < 1) (g3 : ¬ l > 2000000) (g4 : r < 1) :
    Calls Try.prog 26 #[ptV a b, .int .i64 i, .int .u8 2, .int .i64 l, .int .i64 r] w fun e w' => e = .returned (.tuple #[shpR 0 0 0 0 0 0 0 0 0 0 0 0 0 0, .int .i64 2]) ∧ Below w.heap.size w w' := by
  have HV := Lib.hid h
  clear h
  go_enter Try.func26, Try.ntmps26
  go_wp2_with fail
  have B := below_alloc2 w (.cells #[.int .i64 a, .int .i64 b] 30) (.cells #[.int .i64 0, .int .i64 0, .int .i64 0, .int .i64 0, .int .i64 0, .int .i64 0, .int .i64 0, .int .i64 0, .int .i64 0, .int .i64 0, .int .i64 0, .int .i64 0, .int .i64 0, .int .i64 0] 56)
  have T := (c2_new w (.int .i64 a) (.int .i64 b) 30).alc (.cells #[.int .i64 0, .int .i64 0, .int .i64 0, .int .i64 0, .int .i64 0, .int .i64 0, .int .i64 0, .int .i64 0, .int .i64 0, .int .i64 0, .int .i64 0, .int .i64 0, .int .i64 0, .int .i64 0] 56)
  have Z := c14_new (w.alloc (.cells #[.int .i64 a, .int .i64 b] 30)) (.int .i64 0) (.int .i64 0) (.int .i64 0) (.int .i64 0) (.int .i64 0) (.int .i64 0) (.int .i64 0) (.int .i64 0) (.int .i64 0) (.int .i64 0) (.int .i64 0) (.int .i64 0) (.int .i64 0) (.int .i64 0) 56
  rw [show (w.alloc (.cells #[.int .i64 a, .int .i64 b] 30)).heap.size = w.heap.size + 1 by simp] at Z
  generalize (w.alloc (.cells #[.int .i64 a, .int .i64 b] 30)).alloc (.cells #[.int .i64 0, .int .i64 0, .int .i64 0, .int .i64 0, .int .i64 0, .int .i64 0, .int .i64 0, .int .i64 0, .int .i64 0, .int .i64 0, .int .i64 0, .int .i64 0, .int .i64 0, .int .i64 0] 56) = w0 at *
  refine (rpvalid_any _ _ _).mono ?_
  rintro e w1 ⟨rfl, hb⟩
  rw [HV.out]
  replace B := thn B hb
  replace T := T.next hb
  replace Z := Z.next hb
  clear hb
  obtain ⟨z0, z1, z2, z3, z4, z5, z6, z7, z8, z9, z10, z11, z12, z13, z14, z15, z16, z17, z18, z19, z20, z21, z22, z23, z24, z25, z26, z27, zl⟩ := id Z
  go_wp2
  exact bodyPost_ret (v := .tuple #[shpR 0 0 0 0 0 0 0 0 0 0 0 0 0 0, .int .i64 2]) (by simp [results, Try.results26, go_sem, *]) rfl ⟨rfl, below_put14 B (b := w.heap.size + 1) (Nat.le_succ _) (.int .i64 0) (.int .i64 0) (.int .i64 0) (.int .i64 0) (.int .i64 0) (.int .i64 0) (.int .i64 0) (.int .i64 0) (.int .i64 0) (.int .i64 0) (.int .i64 0) (.int .i64 0) (.int .i64 0) (.int .i64 0)⟩
set_option maxRecDepth 8000 in
set_option maxHeartbeats 16000000 in
theorem pts_r25 (a b i l r : Int) (w : World) (h : pvd a b = true) (g0 : ¬ i < 0) (g1 : ¬ i ≥ 129600000) (g2 : ¬ l < 1) (g3 : ¬ l > 2000000) (g4 : ¬ r < 1) (g5 : r > 2000000) :
    Calls Try.prog 26 #[ptV a b, .int .i64 i, .int .u8 2, .int .i64 l, .int .i64 r] w fun e w' => e = .returned (.tuple #[shpR 0 0 0 0 0 0 0 0 0 0 0 0 0 0, .int .i64 2]) ∧ Below w.heap.size w w' := by
  have HV := Lib.hid h
  clear h
  go_enter Try.func26, Try.ntmps26
  go_wp2_with fail
  have B := below_alloc2 w (.cells #[.int .i64 a, .int .i64 b] 30) (.cells #[.int .i64 0, .int .i64 0, .int .i64 0, .int .i64 0, .int .i64 0, .int .i64 0, .int .i64 0, .int .i64 0, .int .i64 0, .int .i64 0, .int .i64 0, .int .i64 0, .int .i64 0, .int .i64 0] 56)
  have T := (c2_new w (.int .i64 a) (.int .i64 b) 30).alc (.cells #[.int .i64 0, .int .i64 0, .int .i64 0, .int .i64 0, .int .i64 0, .int .i64 0, .int .i64 0, .int .i64 0, .int .i64 0, .int .i64 0, .int .i64 0, .int .i64 0, .int .i64 0, .int .i64 0] 56)
  have Z := c14_new (w.alloc (.cells #[.int .i64 a, .int .i64 b] 30)) (.int .i64 0) (.int .i64 0) (.int .i64 0) (.int .i64 0) (.int .i64 0) (.int .i64 0) (.int .i64 0) (.int .i64 0) (.int .i64 0) (.int .i64 0) (.int .i64 0) (.int .i64 0) (.int .i64 0) (.int .i64 0) 56
  rw [show (w.alloc (.cells #[.int .i64 a, .int .i64 b] 30)).heap.size = w.heap.size + 1 by simp] at Z
  generalize (w.alloc (.cells #[.int .i64 a, .int .i64 b] 30)).alloc (.cells #[.int .i64 0, .int .i64 0, .int .i64 0, .int .i64 0, .int .i64 0, .int .i64 0, .int .i64 0, .int .i64 0, .int .i64 0, .int .i64 0, .int .i64 0, .int .i64 0, .int .i64 0, .int .i64 0] 56) = w0 at *
  refine (rpvalid_any _ _ _).mono ?_
  rintro e w1 ⟨rfl, hb⟩
  rw [HV.out]
  replace B := thn B hb
  replace T := T.next hb
  replace Z := Z.next hb
  clear hb
  obtain ⟨z0, z1, z2, z3, z4, z5, z6, z7, z8, z9, z10, z11, z12, z13, z14, z15, z16, z17, z18, z19, z20, z21, z22, z23, z24, z25, z26, z27, zl⟩ := id Z
  go_wp2
  exact bodyPost_ret (v := .tuple #[shpR 0 0 0 0 0 0 0 0 0 0 0 0 0 0, .int .i64 2]) (by simp [results, Try.results26, go_sem, *]) rfl ⟨rfl, below_put14 B (b := w.heap.size + 1) (Nat.le_succ _) (.int .i64 0) (.int .i64 0) (.int .i64 0) (.int .i64 0) (.int .i64 0) (.int .i64 0) (.int .i64 0) (.int .i64 0) (.int .i64 0) (.int .i64 0) (.int .i64 0) (.int .i64 0) (.int .i64 0) (.int .i64 0)⟩
theorem pts_r (a b i k l r : Int) (w : World) (h : pvd a b = true) (hk : k = 1 ∨ k = 2) (hr : rng i l r = false) :
    Calls Try.prog 26 #[ptV a b, .int .i64 i, .int .u8 k, .int .i64 l, .int .i64 r] w fun e w' => e = .returned (.tuple #[shpR 0 0 0 0 0 0 0 0 0 0 0 0 0 0, .int .i64 2]) ∧ Below w.heap.size w w' := by
  rcases hk with rfl | rfl
  · rcases rng_cases hr with g0 | ⟨g0, g1⟩ | ⟨g0, g1, g2⟩ | ⟨g0, g1, g2, g3⟩ | ⟨g0, g1, g2, g3, g4⟩ | ⟨g0, g1, g2, g3, g4, g5⟩
    · exact pts_r10 a b i l r w h g0
    · exact pts_r11 a b i l r w h g0 g1
    · exact pts_r12 a b i l r w h g0 g1 g2
    · exact pts_r13 a b i l r w h g0 g1 g2 g3
    · exact pts_r14 a b i l r w h g0 g1 g2 g3 g4
    · exact pts_r15 a b i l r w h g0 g1 g2 g3 g4 g5
  · rcases rng_cases hr with g0 | ⟨g0, g1⟩ | ⟨g0, g1, g2⟩ | ⟨g0, g1, g2, g3⟩ | ⟨g0, g1, g2, g3, g4⟩ | ⟨g0, g1, g2, g3, g4, g5⟩
    · exact pts_r20 a b i l r w h g0
    · exact pts_r21 a b i l r w h g0 g1
    · exact pts_r22 a b i l r w h g0 g1 g2
    · exact pts_r23 a b i l r w h g0 g1 g2 g3
    · exact pts_r24 a b i l r w h g0 g1 g2 g3 g4
    · exact pts_r25 a b i l r w h g0 g1 g2 g3 g4 g5
end Go.Proofs.Ytgabdnabcpdinaa
