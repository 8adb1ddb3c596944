/- line.Offset. -/
import Derived.Test.YtpgpdglmgpjhlaaLinA
import Derived.Deep.RegionHeld3
import Derived.Deep.DeepCutAuto
namespace Go.Proofs.Ytpgpdglmgpjhlaa
open Go.RowKit Go.Joins Fdk
set_option linter.unusedVariables false
theorem c2_newa (w : World) (o : Obj) (x y : Value) (t : TypeId) : C2 ((w.alloc o).alloc (.cells #[x, y] t)) (w.heap.size + 1) x y := by
  have g := c2_new (w.alloc o) x y t
  rw [show (w.alloc o).heap.size = w.heap.size + 1 by simp] at g
  exact g
theorem c2_newp (w : World) (b : Nat) (v0 v1 x y : Value) (t : TypeId) : C2 (((w.setCell ⟨b, 0, none⟩ v0).setCell ⟨b, 1, none⟩ v1).alloc (.cells #[x, y] t)) w.heap.size x y := by
  have h := c2_new ((w.setCell ⟨b, 0, none⟩ v0).setCell ⟨b, 1, none⟩ v1) x y t
  rw [show ((w.setCell ⟨b, 0, none⟩ v0).setCell ⟨b, 1, none⟩ v1).heap.size = w.heap.size by simp] at h
  exact h
theorem C2.else2 {w : World} {b b' : Nat} {x y : Value} (h : C2 w b x y) (hne : b' ≠ b) (v0 v1 : Value) : C2 ((w.setCell ⟨b', 0, none⟩ v0).setCell ⟨b', 1, none⟩ v1) b x y :=
  (h.else (p := ⟨b', 0, none⟩) hne v0).else (p := ⟨b', 1, none⟩) hne v1
theorem lagr (X Y Z U : Int) : (X * U - Y * Z) * (X * U - Y * Z) + (X * Z + Y * U) * (X * Z + Y * U) = (Z * Z + U * U) * (X * X + Y * Y) := by grind
theorem sq_nn (n : Int) : 0 ≤ n * n := by
  rcases Int.lt_or_le n 0 with g | g
  · rw [← Int.neg_mul_neg]; exact Int.mul_nonneg (by omega) (by omega)
  · exact Int.mul_nonneg g g
theorem quo_b {n m M s : Int} (h : n * n + m * m = M * s) (hs : 0 < s) (hM : M < 4611686018427387904) : n * n / s < 4611686018427387904 := by
  have := Int.ediv_le_of_le_mul hs (show n * n ≤ M * s by have := sq_nn m; omega)
  omega
set_option maxRecDepth 4000 in
set_option maxHeartbeats 20000000 in
theorem offset_0 (a b c d p q : Int) (w : World) (h1 : pvd a b = true) (h2 : pvd c d = true) (h3 : pvd p q = true) (hne : ¬ a = c) :
    Calls Try.prog 6 #[ptV a b, ptV c d, ptV p q] w fun e w' => e = .returned (.tuple #[.int .i64 (lnv (-((c - a) * (q - b) - (d - b) * (p - a))) ((c - a) * (c - a) + (d - b) * (d - b))), .int .i64 (lnv ((c - a) * (p - a) + (d - b) * (q - b)) ((c - a) * (c - a) + (d - b) * (d - b))), .int .i64 0]) ∧ Below w.heap.size w w' := by
  obtain ⟨⟨a0, a1⟩, b0, b1⟩ := pvd_of h1
  obtain ⟨⟨c0, c1⟩, d0, d1⟩ := pvd_of h2
  obtain ⟨⟨p0, p1⟩, q0, q1⟩ := pvd_of h3
  have HL3 := Lib.hid (fun bk w T => lvalid3_t bk a b c d p q w T h1 h2 h3)
  have HW1 := Lib.hid (fun w => vector_any a b c d w h1 h2)
  have HW2 := Lib.hid (fun w => vector_any a b p q w h1 h3)
  have X0 : -4000000 ≤ c - a ∧ c - a ≤ 4000000 := by omega
  have Y0 : -4000000 ≤ d - b ∧ d - b ≤ 4000000 := by omega
  have Z0 : -4000000 ≤ p - a ∧ p - a ≤ 4000000 := by omega
  have U0 : -4000000 ≤ q - b ∧ q - b ≤ 4000000 := by omega
  have hnz : c - a ≠ 0 ∨ d - b ≠ 0 := by omega
  have HC := Lib.hid (fun w => lcross_any (c - a) (d - b) (p - a) (q - b) w X0 Y0 Z0 U0)
  have HD1 := Lib.hid (fun w => ldot_any (c - a) (d - b) (c - a) (d - b) w X0 Y0 X0 Y0)
  have HD2 := Lib.hid (fun w => ldot_any (c - a) (d - b) (p - a) (q - b) w X0 Y0 Z0 U0)
  have HG : Hid (∀ n, n = -((c - a) * (q - b) - (d - b) * (p - a)) ∨ n = (c - a) * (p - a) + (d - b) * (q - b) → ∀ w, Calls Try.prog 25 #[.int .i64 n, .int .i64 ((c - a) * (c - a) + (d - b) * (d - b))] w fun e w' => e = .returned (.int .i64 (lnv n ((c - a) * (c - a) + (d - b) * (d - b)))) ∧ Below w.heap.size w w') := by
    refine Lib.hid fun n hn w => ?_
    have l := lagr (c - a) (d - b) (p - a) (q - b)
    have m0 := sq_bh X0.1 X0.2 X0.1 X0.2
    have m1 := sq_bh Y0.1 Y0.2 Y0.1 Y0.2
    have m2 := sq_bh Z0.1 Z0.2 Z0.1 Z0.2
    have m3 := sq_bh U0.1 U0.2 U0.1 U0.2
    have m4 := sq_bh X0.1 X0.2 U0.1 U0.2
    have m5 := sq_bh Y0.1 Y0.2 Z0.1 Z0.2
    have m6 := sq_bh X0.1 X0.2 Z0.1 Z0.2
    have m7 := sq_bh Y0.1 Y0.2 U0.1 U0.2
    have s0 : 0 < (c - a) * (c - a) + (d - b) * (d - b) := by
      have k0 := sq_nn (c - a)
      have k1 := sq_nn (d - b)
      rcases hnz with h | h
      · have : (c - a) * (c - a) ≠ 0 := Int.mul_ne_zero h h
        omega
      · have : (d - b) * (d - b) ≠ 0 := Int.mul_ne_zero h h
        omega
    rcases hn with rfl | rfl
    · exact length_any _ _ w (by omega) (by omega) s0 (by omega) (quo_b (m := (c - a) * (p - a) + (d - b) * (q - b)) (by rw [Int.neg_mul_neg]; exact l) s0 (by omega))
    · exact length_any _ _ w (by omega) (by omega) s0 (by omega) (quo_b (m := (c - a) * (q - b) - (d - b) * (p - a)) (by rw [Int.add_comm]; exact l) s0 (by omega))
  have HG1 := Lib.hid (HG.out _ (.inl rfl))
  have HG2 := Lib.hid (HG.out _ (.inr rfl))
  have ew : IntKind.i64.wrap (-((c - a) * (q - b) - (d - b) * (p - a))) = -((c - a) * (q - b) - (d - b) * (p - a)) := IntWalk.i64_in _ (by
    have m4 := sq_bh X0.1 X0.2 U0.1 U0.2
    have m5 := sq_bh Y0.1 Y0.2 Z0.1 Z0.2
    omega)
  obtain ⟨A1, hA1⟩ : ∃ A1, A1 = lnv (-((c - a) * (q - b) - (d - b) * (p - a))) ((c - a) * (c - a) + (d - b) * (d - b)) := ⟨_, rfl⟩
  obtain ⟨A2, hA2⟩ : ∃ A2, A2 = lnv ((c - a) * (p - a) + (d - b) * (q - b)) ((c - a) * (c - a) + (d - b) * (d - b)) := ⟨_, rfl⟩
  rw [← hA1] at HG1 ⊢
  rw [← hA2] at HG2 ⊢
  clear hA1 hA2 HG
  generalize (c - a) * (c - a) + (d - b) * (d - b) = s at *
  generalize (c - a) * (p - a) + (d - b) * (q - b) = dt at *
  generalize (c - a) * (q - b) - (d - b) * (p - a) = cr at *
  generalize c - a = X at *
  generalize d - b = Y at *
  generalize p - a = Z at *
  generalize q - b = U at *
  clear X0 Y0 Z0 U0 hnz h1 h2 h3 a0 a1 b0 b1 c0 c1 d0 d1 p0 p1 q0 q1
  go_enter Try.func6, Try.ntmps6
  go_wp2_with fail
  have T := r6_new (((w.alloc (.cells #[.int .i64 a, .int .i64 b] 23)).alloc (.cells #[.int .i64 c, .int .i64 d] 23)).alloc (.cells #[.int .i64 p, .int .i64 q] 23)) (.int .i64 a) (.int .i64 b) (.int .i64 c) (.int .i64 d) (.int .i64 p) (.int .i64 q) 23
  rw [show (((w.alloc (.cells #[.int .i64 a, .int .i64 b] 23)).alloc (.cells #[.int .i64 c, .int .i64 d] 23)).alloc (.cells #[.int .i64 p, .int .i64 q] 23)).heap.size = w.heap.size + 1 + 1 + 1 by simp] at T
  refine (HL3.out _ _ T).mono ?_
  rintro e w1 ⟨rfl, hb⟩
  have B := thn (alc (below_alloc3 w _ _ _) _) hb
  have A := ((((c2_new w (.int .i64 a) (.int .i64 b) 23).alc (.cells #[.int .i64 c, .int .i64 d] 23)).alc (.cells #[.int .i64 p, .int .i64 q] 23)).alc _).next hb
  have C := (((c2_new (w.alloc (.cells #[.int .i64 a, .int .i64 b] 23)) (.int .i64 c) (.int .i64 d) 23).alc (.cells #[.int .i64 p, .int .i64 q] 23)).alc _).next hb
  rw [show (w.alloc (.cells #[.int .i64 a, .int .i64 b] 23)).heap.size = w.heap.size + 1 by simp] at C
  have Q := ((c2_new ((w.alloc (.cells #[.int .i64 a, .int .i64 b] 23)).alloc (.cells #[.int .i64 c, .int .i64 d] 23)) (.int .i64 p) (.int .i64 q) 23).alc _).next hb
  rw [show ((w.alloc (.cells #[.int .i64 a, .int .i64 b] 23)).alloc (.cells #[.int .i64 c, .int .i64 d] 23)).heap.size = w.heap.size + 1 + 1 by simp] at Q
  clear hb T HL3
  obtain ⟨a0, a1, a2_, a3, al⟩ := id A
  obtain ⟨c0, c1, c2, c3, cl⟩ := id C
  go_wp2_with fail
  clear a0 a1 a2_ a3 al c0 c1 c2 c3 cl
  have L0 : ∀ w', Below w1.heap.size w1 w' → w'.cell? ⟨w.heap.size, 0, none⟩ = some (.int .i64 a) := fun _ h => (A.next h).c0
  have L1 : ∀ w', Below w1.heap.size w1 w' → w'.cell? ⟨w.heap.size, 1, none⟩ = some (.int .i64 b) := fun _ h => (A.next h).c1
  have L2 : ∀ w', Below w1.heap.size w1 w' → w'.cell? ⟨w.heap.size + 1, 0, none⟩ = some (.int .i64 c) := fun _ h => (C.next h).c0
  have L3 : ∀ w', Below w1.heap.size w1 w' → w'.cell? ⟨w.heap.size + 1, 1, none⟩ = some (.int .i64 d) := fun _ h => (C.next h).c1
  have L4 : ∀ w', Below w1.heap.size w1 w' → w'.cell? ⟨w.heap.size + 1 + 1, 0, none⟩ = some (.int .i64 p) := fun _ h => (Q.next h).c0
  have L5 : ∀ w', Below w1.heap.size w1 w' → w'.cell? ⟨w.heap.size + 1 + 1, 1, none⟩ = some (.int .i64 q) := fun _ h => (Q.next h).c1
  have hle1 : Hid (w1.heap.size ≤ w1.heap.size) := Lib.hid (Nat.le_refl _)
  have hle2 : Hid (w1.heap.size ≤ w1.heap.size + 1) := Lib.hid (Nat.le_succ _)
  have HB0 := Lib.hid B
  clear A C Q B
  go_cut [9, 10] (fun s9 s10 wx => ∃ ba bb : Nat, s9 = .pointer (some ⟨ba, 0, none⟩) ∧ s10 = .pointer (some ⟨bb, 0, none⟩) ∧ C2 wx ba (.int .i64 X) (.int .i64 Y) ∧ C2 wx bb (.int .i64 Z) (.int .i64 U) ∧ Below w1.heap.size w1 wx)
  case first =>
    go_region_held3 (fun w' => Below w1.heap.size w1 w') (first | with_reducible exact hS3 | with_reducible exact alc hS3 _ | with_reducible exact alc (alc hS3 _) _ | with_reducible (refine alc (below_put2 hS3 ?_ _ _) _; (first | exact hle1.out | exact hle2.out | exact hle3.out | exact hle4.out | exact hS3.size)) | with_reducible (refine below_put2 hS3 ?_ _ _; (first | exact hle1.out | exact hle2.out | exact hle3.out | exact hle4.out | exact hS3.size)) | with_reducible (refine below_put2 (below_put2 hS3 ?_ _ _) ?_ _ _ <;> (first | exact hle1.out | exact hle2.out | exact hle3.out | exact hle4.out | exact hS3.size)) | with_reducible exact hS2 | with_reducible exact alc hS2 _ | with_reducible exact alc (alc hS2 _) _ | with_reducible exact bdrew _ | with_reducible exact thn (below_alloc1 w1 _) (bdrew _) | with_reducible exact thn (below_alloc2 w1 _ _) (bdrew _))
      (first | (go_at_call 12; with_reducible refine (HW1.out _).mono ?_; rintro e w2 ⟨rfl, hb2⟩; (first | (have hS2 := thn (bdrew w1) hb2) | (have hS2 := thn (thn (below_alloc1 w1 _) (bdrew _)) hb2; have P := (c2_new w1 (.int .i64 0) (.int .i64 0) 23).drew.next hb2) | (have hS2 := thn (thn (below_alloc2 w1 _ _) (bdrew _)) hb2; have P := ((c2_new w1 (.int .i64 0) (.int .i64 0) 23).alc (.cells #[.int .i64 0, .int .i64 0] 23)).drew.next hb2; have R := (c2_new (w1.alloc (.cells #[.int .i64 0, .int .i64 0] 23)) (.int .i64 0) (.int .i64 0) 23).drew.next hb2; simp only [World.alloc, Array.size_push] at R)); have hle3 : Hid (w1.heap.size ≤ w2.heap.size) := Lib.hid hS2.size; have hle4 : Hid (w1.heap.size ≤ w2.heap.size + 1) := Lib.hid (Nat.le_succ_of_le hS2.size); skip) | (go_at_call 12; with_reducible refine (HW2.out _).mono ?_; rintro e w3 ⟨rfl, hb3⟩; (first | (have hS3 := thn hS2 hb3; (try (have P3 := P.next hb3; obtain ⟨p0, p1, p2, p3, pl⟩ := id P3)); (try (have R3 := R.next hb3; obtain ⟨r0, r1, r2, r3, rl⟩ := id R3))) | (have hS3 := thn (alc hS2 _) hb3; (try (have P3 := (P.alc _).next hb3; have ne1 := Nat.ne_of_lt P.lt; have ne2 := Nat.ne_of_gt P.lt; obtain ⟨p0, p1, p2, p3, pl⟩ := id P3)); have Q3 := (c2_new w2 (.int .i64 0) (.int .i64 0) 23).next hb3; obtain ⟨q0, q1, q2, q3, ql⟩ := id Q3) | (have hS3 := thn (alc (alc hS2 _) _) hb3; have Q3 := ((c2_new w2 (.int .i64 0) (.int .i64 0) 23).alc (.cells #[.int .i64 0, .int .i64 0] 23)).next hb3; have R3 := (c2_new (w2.alloc (.cells #[.int .i64 0, .int .i64 0] 23)) (.int .i64 0) (.int .i64 0) 23).next hb3; simp only [World.alloc, Array.size_push] at R3; obtain ⟨q0, q1, q2, q3, ql⟩ := id Q3; obtain ⟨r0, r1, r2, r3, rl⟩ := id R3))))
    all_goals (go_wp2_with fail; go_meet)
    all_goals (first | (with_reducible exact ⟨_, _, rfl, rfl, (c2_new w3 _ _ _).alc _, c2_newa w3 _ _ _ _, alc (alc hS3 _) _⟩) | (with_reducible exact ⟨_, _, rfl, rfl, c2_newa w3 _ _ _ _, (c2_new w3 _ _ _).alc _, alc (alc hS3 _) _⟩) | (with_reducible exact ⟨_, _, rfl, rfl, (P3.put _ _).alc _, c2_newp w3 _ _ _ _ _ _, alc (below_put2 hS3 (by first | exact hle1.out | exact hle2.out | exact hle3.out | exact hle4.out | exact hS3.size) _ _) _⟩) | (with_reducible exact ⟨_, _, rfl, rfl, c2_newp w3 _ _ _ _ _ _, (P3.put _ _).alc _, alc (below_put2 hS3 (by first | exact hle1.out | exact hle2.out | exact hle3.out | exact hle4.out | exact hS3.size) _ _) _⟩) | (with_reducible exact ⟨_, _, rfl, rfl, (Q3.put _ _).alc _, c2_newp w3 _ _ _ _ _ _, alc (below_put2 hS3 (by first | exact hle1.out | exact hle2.out | exact hle3.out | exact hle4.out | exact hS3.size) _ _) _⟩) | (with_reducible exact ⟨_, _, rfl, rfl, c2_newp w3 _ _ _ _ _ _, (Q3.put _ _).alc _, alc (below_put2 hS3 (by first | exact hle1.out | exact hle2.out | exact hle3.out | exact hle4.out | exact hS3.size) _ _) _⟩) | (with_reducible exact ⟨_, _, rfl, rfl, (R3.put _ _).alc _, c2_newp w3 _ _ _ _ _ _, alc (below_put2 hS3 (by first | exact hle1.out | exact hle2.out | exact hle3.out | exact hle4.out | exact hS3.size) _ _) _⟩) | (with_reducible exact ⟨_, _, rfl, rfl, c2_newp w3 _ _ _ _ _ _, (R3.put _ _).alc _, alc (below_put2 hS3 (by first | exact hle1.out | exact hle2.out | exact hle3.out | exact hle4.out | exact hS3.size) _ _) _⟩) | (with_reducible exact ⟨_, _, rfl, rfl, (P3.put _ _).else2 (by first | exact ne1 | exact ne2 | exact Nat.succ_ne_self _ | exact (Nat.succ_ne_self _).symm) _ _, (Q3.else2 (by first | exact ne1 | exact ne2 | exact Nat.succ_ne_self _ | exact (Nat.succ_ne_self _).symm) _ _).put _ _, below_put2 (below_put2 hS3 (by first | exact hle1.out | exact hle2.out | exact hle3.out | exact hle4.out | exact hS3.size) _ _) (by first | exact hle1.out | exact hle2.out | exact hle3.out | exact hle4.out | exact hS3.size) _ _⟩) | (with_reducible exact ⟨_, _, rfl, rfl, (P3.put _ _).else2 (by first | exact ne1 | exact ne2 | exact Nat.succ_ne_self _ | exact (Nat.succ_ne_self _).symm) _ _, (R3.else2 (by first | exact ne1 | exact ne2 | exact Nat.succ_ne_self _ | exact (Nat.succ_ne_self _).symm) _ _).put _ _, below_put2 (below_put2 hS3 (by first | exact hle1.out | exact hle2.out | exact hle3.out | exact hle4.out | exact hS3.size) _ _) (by first | exact hle1.out | exact hle2.out | exact hle3.out | exact hle4.out | exact hS3.size) _ _⟩) | (with_reducible exact ⟨_, _, rfl, rfl, (Q3.put _ _).else2 (by first | exact ne1 | exact ne2 | exact Nat.succ_ne_self _ | exact (Nat.succ_ne_self _).symm) _ _, (P3.else2 (by first | exact ne1 | exact ne2 | exact Nat.succ_ne_self _ | exact (Nat.succ_ne_self _).symm) _ _).put _ _, below_put2 (below_put2 hS3 (by first | exact hle1.out | exact hle2.out | exact hle3.out | exact hle4.out | exact hS3.size) _ _) (by first | exact hle1.out | exact hle2.out | exact hle3.out | exact hle4.out | exact hS3.size) _ _⟩) | (with_reducible exact ⟨_, _, rfl, rfl, (Q3.put _ _).else2 (by first | exact ne1 | exact ne2 | exact Nat.succ_ne_self _ | exact (Nat.succ_ne_self _).symm) _ _, (R3.else2 (by first | exact ne1 | exact ne2 | exact Nat.succ_ne_self _ | exact (Nat.succ_ne_self _).symm) _ _).put _ _, below_put2 (below_put2 hS3 (by first | exact hle1.out | exact hle2.out | exact hle3.out | exact hle4.out | exact hS3.size) _ _) (by first | exact hle1.out | exact hle2.out | exact hle3.out | exact hle4.out | exact hS3.size) _ _⟩) | (with_reducible exact ⟨_, _, rfl, rfl, (R3.put _ _).else2 (by first | exact ne1 | exact ne2 | exact Nat.succ_ne_self _ | exact (Nat.succ_ne_self _).symm) _ _, (P3.else2 (by first | exact ne1 | exact ne2 | exact Nat.succ_ne_self _ | exact (Nat.succ_ne_self _).symm) _ _).put _ _, below_put2 (below_put2 hS3 (by first | exact hle1.out | exact hle2.out | exact hle3.out | exact hle4.out | exact hS3.size) _ _) (by first | exact hle1.out | exact hle2.out | exact hle3.out | exact hle4.out | exact hS3.size) _ _⟩) | (with_reducible exact ⟨_, _, rfl, rfl, (R3.put _ _).else2 (by first | exact ne1 | exact ne2 | exact Nat.succ_ne_self _ | exact (Nat.succ_ne_self _).symm) _ _, (Q3.else2 (by first | exact ne1 | exact ne2 | exact Nat.succ_ne_self _ | exact (Nat.succ_ne_self _).symm) _ _).put _ _, below_put2 (below_put2 hS3 (by first | exact hle1.out | exact hle2.out | exact hle3.out | exact hle4.out | exact hS3.size) _ _) (by first | exact hle1.out | exact hle2.out | exact hle3.out | exact hle4.out | exact hS3.size) _ _⟩))
  case rest =>
  obtain ⟨ba, bb, rfl, rfl, FA, FB, B2⟩ := hcut
  have HB1 := Lib.hid (thn HB0.out B2)
  clear L0 L1 L2 L3 L4 L5 hle1 hle2 HB0 B2 HW1 HW2
  obtain ⟨a0, a1, a2_, a3, al⟩ := id FA
  go_wp2_with fail
  refine (HD1.out _).mono ?_
  rintro e w4 ⟨rfl, hb⟩
  clear a0 a1 a2_ a3 al
  replace FA := FA.next hb
  replace FB := FB.next hb
  replace HB1 := Lib.hid (thn HB1.out hb)
  clear hb HD1
  go_wp2_with fail
  have L0 : ∀ w', Below w4.heap.size w4 w' → w'.cell? ⟨ba, 0, none⟩ = some (.int .i64 X) := fun _ h => (FA.next h).c0
  have L1 : ∀ w', Below w4.heap.size w4 w' → w'.cell? ⟨ba, 1, none⟩ = some (.int .i64 Y) := fun _ h => (FA.next h).c1
  have L2 : ∀ w', Below w4.heap.size w4 w' → w'.cell? ⟨bb, 0, none⟩ = some (.int .i64 Z) := fun _ h => (FB.next h).c0
  have L3 : ∀ w', Below w4.heap.size w4 w' → w'.cell? ⟨bb, 1, none⟩ = some (.int .i64 U) := fun _ h => (FB.next h).c1
  clear FA FB
  go_region_held3 (fun w' => Below w4.heap.size w4 w') (first | with_reducible exact bdrew _ | with_reducible exact hS1 | with_reducible exact hS2 | with_reducible exact hS3 | with_reducible exact hS4)
    (first | (go_at_call 26; with_reducible refine (HC.out _).mono ?_; rintro e x1 ⟨rfl, hb1⟩; have hS1 := thn (bdrew w4) hb1) | (go_at_call 25; with_reducible refine (HG1.out _).mono ?_; rintro e x2 ⟨rfl, hb2⟩; have hS2 := thn hS1 hb2) | (go_at_call 24; with_reducible refine (HD2.out _).mono ?_; rintro e x3 ⟨rfl, hb3⟩; have hS3 := thn hS2 hb3) | (go_at_call 25; with_reducible refine (HG2.out _).mono ?_; rintro e x4 ⟨rfl, hb4⟩; have hS4 := thn hS3 hb4))
  have HB2 := Lib.hid (thn HB1.out hS4)
  clear L0 L1 L2 L3 hS1 hS2 hS3 hS4 hb1 hb2 hb3 hb4
  go_wp2_with fail
  go_ret3
  exact ⟨rfl, HB2.out⟩
set_option maxRecDepth 4000 in
set_option maxHeartbeats 20000000 in
theorem offset_1 (a b c d p q : Int) (w : World) (h1 : pvd a b = true) (h2 : pvd c d = true) (h3 : pvd p q = true) (hac : a = c) (hne : ¬ b = d) :
    Calls Try.prog 6 #[ptV a b, ptV c d, ptV p q] w fun e w' => e = .returned (.tuple #[.int .i64 (lnv (-((c - a) * (q - b) - (d - b) * (p - a))) ((c - a) * (c - a) + (d - b) * (d - b))), .int .i64 (lnv ((c - a) * (p - a) + (d - b) * (q - b)) ((c - a) * (c - a) + (d - b) * (d - b))), .int .i64 0]) ∧ Below w.heap.size w w' := by
  obtain ⟨⟨a0, a1⟩, b0, b1⟩ := pvd_of h1
  obtain ⟨⟨c0, c1⟩, d0, d1⟩ := pvd_of h2
  obtain ⟨⟨p0, p1⟩, q0, q1⟩ := pvd_of h3
  have HL3 := Lib.hid (fun bk w T => lvalid3_t bk a b c d p q w T h1 h2 h3)
  have HW1 := Lib.hid (fun w => vector_any a b c d w h1 h2)
  have HW2 := Lib.hid (fun w => vector_any a b p q w h1 h3)
  have X0 : -4000000 ≤ c - a ∧ c - a ≤ 4000000 := by omega
  have Y0 : -4000000 ≤ d - b ∧ d - b ≤ 4000000 := by omega
  have Z0 : -4000000 ≤ p - a ∧ p - a ≤ 4000000 := by omega
  have U0 : -4000000 ≤ q - b ∧ q - b ≤ 4000000 := by omega
  have hnz : c - a ≠ 0 ∨ d - b ≠ 0 := by omega
  have HC := Lib.hid (fun w => lcross_any (c - a) (d - b) (p - a) (q - b) w X0 Y0 Z0 U0)
  have HD1 := Lib.hid (fun w => ldot_any (c - a) (d - b) (c - a) (d - b) w X0 Y0 X0 Y0)
  have HD2 := Lib.hid (fun w => ldot_any (c - a) (d - b) (p - a) (q - b) w X0 Y0 Z0 U0)
  have HG : Hid (∀ n, n = -((c - a) * (q - b) - (d - b) * (p - a)) ∨ n = (c - a) * (p - a) + (d - b) * (q - b) → ∀ w, Calls Try.prog 25 #[.int .i64 n, .int .i64 ((c - a) * (c - a) + (d - b) * (d - b))] w fun e w' => e = .returned (.int .i64 (lnv n ((c - a) * (c - a) + (d - b) * (d - b)))) ∧ Below w.heap.size w w') := by
    refine Lib.hid fun n hn w => ?_
    have l := lagr (c - a) (d - b) (p - a) (q - b)
    have m0 := sq_bh X0.1 X0.2 X0.1 X0.2
    have m1 := sq_bh Y0.1 Y0.2 Y0.1 Y0.2
    have m2 := sq_bh Z0.1 Z0.2 Z0.1 Z0.2
    have m3 := sq_bh U0.1 U0.2 U0.1 U0.2
    have m4 := sq_bh X0.1 X0.2 U0.1 U0.2
    have m5 := sq_bh Y0.1 Y0.2 Z0.1 Z0.2
    have m6 := sq_bh X0.1 X0.2 Z0.1 Z0.2
    have m7 := sq_bh Y0.1 Y0.2 U0.1 U0.2
    have s0 : 0 < (c - a) * (c - a) + (d - b) * (d - b) := by
      have k0 := sq_nn (c - a)
      have k1 := sq_nn (d - b)
      rcases hnz with h | h
      · have : (c - a) * (c - a) ≠ 0 := Int.mul_ne_zero h h
        omega
      · have : (d - b) * (d - b) ≠ 0 := Int.mul_ne_zero h h
        omega
    rcases hn with rfl | rfl
    · exact length_any _ _ w (by omega) (by omega) s0 (by omega) (quo_b (m := (c - a) * (p - a) + (d - b) * (q - b)) (by rw [Int.neg_mul_neg]; exact l) s0 (by omega))
    · exact length_any _ _ w (by omega) (by omega) s0 (by omega) (quo_b (m := (c - a) * (q - b) - (d - b) * (p - a)) (by rw [Int.add_comm]; exact l) s0 (by omega))
  have HG1 := Lib.hid (HG.out _ (.inl rfl))
  have HG2 := Lib.hid (HG.out _ (.inr rfl))
  have ew : IntKind.i64.wrap (-((c - a) * (q - b) - (d - b) * (p - a))) = -((c - a) * (q - b) - (d - b) * (p - a)) := IntWalk.i64_in _ (by
    have m4 := sq_bh X0.1 X0.2 U0.1 U0.2
    have m5 := sq_bh Y0.1 Y0.2 Z0.1 Z0.2
    omega)
  obtain ⟨A1, hA1⟩ : ∃ A1, A1 = lnv (-((c - a) * (q - b) - (d - b) * (p - a))) ((c - a) * (c - a) + (d - b) * (d - b)) := ⟨_, rfl⟩
  obtain ⟨A2, hA2⟩ : ∃ A2, A2 = lnv ((c - a) * (p - a) + (d - b) * (q - b)) ((c - a) * (c - a) + (d - b) * (d - b)) := ⟨_, rfl⟩
  rw [← hA1] at HG1 ⊢
  rw [← hA2] at HG2 ⊢
  clear hA1 hA2 HG
  generalize (c - a) * (c - a) + (d - b) * (d - b) = s at *
  generalize (c - a) * (p - a) + (d - b) * (q - b) = dt at *
  generalize (c - a) * (q - b) - (d - b) * (p - a) = cr at *
  generalize c - a = X at *
  generalize d - b = Y at *
  generalize p - a = Z at *
  generalize q - b = U at *
  clear X0 Y0 Z0 U0 hnz h1 h2 h3 a0 a1 b0 b1 c0 c1 d0 d1 p0 p1 q0 q1
  subst hac
  go_enter Try.func6, Try.ntmps6
  go_wp2_with fail
  have T := r6_new (((w.alloc (.cells #[.int .i64 a, .int .i64 b] 23)).alloc (.cells #[.int .i64 a, .int .i64 d] 23)).alloc (.cells #[.int .i64 p, .int .i64 q] 23)) (.int .i64 a) (.int .i64 b) (.int .i64 a) (.int .i64 d) (.int .i64 p) (.int .i64 q) 23
  rw [show (((w.alloc (.cells #[.int .i64 a, .int .i64 b] 23)).alloc (.cells #[.int .i64 a, .int .i64 d] 23)).alloc (.cells #[.int .i64 p, .int .i64 q] 23)).heap.size = w.heap.size + 1 + 1 + 1 by simp] at T
  refine (HL3.out _ _ T).mono ?_
  rintro e w1 ⟨rfl, hb⟩
  have B := thn (alc (below_alloc3 w _ _ _) _) hb
  have A := ((((c2_new w (.int .i64 a) (.int .i64 b) 23).alc (.cells #[.int .i64 a, .int .i64 d] 23)).alc (.cells #[.int .i64 p, .int .i64 q] 23)).alc _).next hb
  have C := (((c2_new (w.alloc (.cells #[.int .i64 a, .int .i64 b] 23)) (.int .i64 a) (.int .i64 d) 23).alc (.cells #[.int .i64 p, .int .i64 q] 23)).alc _).next hb
  rw [show (w.alloc (.cells #[.int .i64 a, .int .i64 b] 23)).heap.size = w.heap.size + 1 by simp] at C
  have Q := ((c2_new ((w.alloc (.cells #[.int .i64 a, .int .i64 b] 23)).alloc (.cells #[.int .i64 a, .int .i64 d] 23)) (.int .i64 p) (.int .i64 q) 23).alc _).next hb
  rw [show ((w.alloc (.cells #[.int .i64 a, .int .i64 b] 23)).alloc (.cells #[.int .i64 a, .int .i64 d] 23)).heap.size = w.heap.size + 1 + 1 by simp] at Q
  clear hb T HL3
  obtain ⟨a0, a1, a2_, a3, al⟩ := id A
  obtain ⟨c0, c1, c2, c3, cl⟩ := id C
  go_wp2_with fail
  clear a0 a1 a2_ a3 al c0 c1 c2 c3 cl
  have L0 : ∀ w', Below w1.heap.size w1 w' → w'.cell? ⟨w.heap.size, 0, none⟩ = some (.int .i64 a) := fun _ h => (A.next h).c0
  have L1 : ∀ w', Below w1.heap.size w1 w' → w'.cell? ⟨w.heap.size, 1, none⟩ = some (.int .i64 b) := fun _ h => (A.next h).c1
  have L2 : ∀ w', Below w1.heap.size w1 w' → w'.cell? ⟨w.heap.size + 1, 0, none⟩ = some (.int .i64 a) := fun _ h => (C.next h).c0
  have L3 : ∀ w', Below w1.heap.size w1 w' → w'.cell? ⟨w.heap.size + 1, 1, none⟩ = some (.int .i64 d) := fun _ h => (C.next h).c1
  have L4 : ∀ w', Below w1.heap.size w1 w' → w'.cell? ⟨w.heap.size + 1 + 1, 0, none⟩ = some (.int .i64 p) := fun _ h => (Q.next h).c0
  have L5 : ∀ w', Below w1.heap.size w1 w' → w'.cell? ⟨w.heap.size + 1 + 1, 1, none⟩ = some (.int .i64 q) := fun _ h => (Q.next h).c1
  have hle1 : Hid (w1.heap.size ≤ w1.heap.size) := Lib.hid (Nat.le_refl _)
  have hle2 : Hid (w1.heap.size ≤ w1.heap.size + 1) := Lib.hid (Nat.le_succ _)
  have HB0 := Lib.hid B
  clear A C Q B
  go_cut [9, 10] (fun s9 s10 wx => ∃ ba bb : Nat, s9 = .pointer (some ⟨ba, 0, none⟩) ∧ s10 = .pointer (some ⟨bb, 0, none⟩) ∧ C2 wx ba (.int .i64 X) (.int .i64 Y) ∧ C2 wx bb (.int .i64 Z) (.int .i64 U) ∧ Below w1.heap.size w1 wx)
  case first =>
    go_region_held3 (fun w' => Below w1.heap.size w1 w') (first | with_reducible exact hS3 | with_reducible exact alc hS3 _ | with_reducible exact alc (alc hS3 _) _ | with_reducible (refine alc (below_put2 hS3 ?_ _ _) _; (first | exact hle1.out | exact hle2.out | exact hle3.out | exact hle4.out | exact hS3.size)) | with_reducible (refine below_put2 hS3 ?_ _ _; (first | exact hle1.out | exact hle2.out | exact hle3.out | exact hle4.out | exact hS3.size)) | with_reducible (refine below_put2 (below_put2 hS3 ?_ _ _) ?_ _ _ <;> (first | exact hle1.out | exact hle2.out | exact hle3.out | exact hle4.out | exact hS3.size)) | with_reducible exact hS2 | with_reducible exact alc hS2 _ | with_reducible exact alc (alc hS2 _) _ | with_reducible exact bdrew _ | with_reducible exact thn (below_alloc1 w1 _) (bdrew _) | with_reducible exact thn (below_alloc2 w1 _ _) (bdrew _))
      (first | (go_at_call 12; with_reducible refine (HW1.out _).mono ?_; rintro e w2 ⟨rfl, hb2⟩; (first | (have hS2 := thn (bdrew w1) hb2) | (have hS2 := thn (thn (below_alloc1 w1 _) (bdrew _)) hb2; have P := (c2_new w1 (.int .i64 0) (.int .i64 0) 23).drew.next hb2) | (have hS2 := thn (thn (below_alloc2 w1 _ _) (bdrew _)) hb2; have P := ((c2_new w1 (.int .i64 0) (.int .i64 0) 23).alc (.cells #[.int .i64 0, .int .i64 0] 23)).drew.next hb2; have R := (c2_new (w1.alloc (.cells #[.int .i64 0, .int .i64 0] 23)) (.int .i64 0) (.int .i64 0) 23).drew.next hb2; simp only [World.alloc, Array.size_push] at R)); have hle3 : Hid (w1.heap.size ≤ w2.heap.size) := Lib.hid hS2.size; have hle4 : Hid (w1.heap.size ≤ w2.heap.size + 1) := Lib.hid (Nat.le_succ_of_le hS2.size); skip) | (go_at_call 12; with_reducible refine (HW2.out _).mono ?_; rintro e w3 ⟨rfl, hb3⟩; (first | (have hS3 := thn hS2 hb3; (try (have P3 := P.next hb3; obtain ⟨p0, p1, p2, p3, pl⟩ := id P3)); (try (have R3 := R.next hb3; obtain ⟨r0, r1, r2, r3, rl⟩ := id R3))) | (have hS3 := thn (alc hS2 _) hb3; (try (have P3 := (P.alc _).next hb3; have ne1 := Nat.ne_of_lt P.lt; have ne2 := Nat.ne_of_gt P.lt; obtain ⟨p0, p1, p2, p3, pl⟩ := id P3)); have Q3 := (c2_new w2 (.int .i64 0) (.int .i64 0) 23).next hb3; obtain ⟨q0, q1, q2, q3, ql⟩ := id Q3) | (have hS3 := thn (alc (alc hS2 _) _) hb3; have Q3 := ((c2_new w2 (.int .i64 0) (.int .i64 0) 23).alc (.cells #[.int .i64 0, .int .i64 0] 23)).next hb3; have R3 := (c2_new (w2.alloc (.cells #[.int .i64 0, .int .i64 0] 23)) (.int .i64 0) (.int .i64 0) 23).next hb3; simp only [World.alloc, Array.size_push] at R3; obtain ⟨q0, q1, q2, q3, ql⟩ := id Q3; obtain ⟨r0, r1, r2, r3, rl⟩ := id R3))))
    all_goals (go_wp2_with fail; go_meet)
    all_goals (first | (with_reducible exact ⟨_, _, rfl, rfl, (c2_new w3 _ _ _).alc _, c2_newa w3 _ _ _ _, alc (alc hS3 _) _⟩) | (with_reducible exact ⟨_, _, rfl, rfl, c2_newa w3 _ _ _ _, (c2_new w3 _ _ _).alc _, alc (alc hS3 _) _⟩) | (with_reducible exact ⟨_, _, rfl, rfl, (P3.put _ _).alc _, c2_newp w3 _ _ _ _ _ _, alc (below_put2 hS3 (by first | exact hle1.out | exact hle2.out | exact hle3.out | exact hle4.out | exact hS3.size) _ _) _⟩) | (with_reducible exact ⟨_, _, rfl, rfl, c2_newp w3 _ _ _ _ _ _, (P3.put _ _).alc _, alc (below_put2 hS3 (by first | exact hle1.out | exact hle2.out | exact hle3.out | exact hle4.out | exact hS3.size) _ _) _⟩) | (with_reducible exact ⟨_, _, rfl, rfl, (Q3.put _ _).alc _, c2_newp w3 _ _ _ _ _ _, alc (below_put2 hS3 (by first | exact hle1.out | exact hle2.out | exact hle3.out | exact hle4.out | exact hS3.size) _ _) _⟩) | (with_reducible exact ⟨_, _, rfl, rfl, c2_newp w3 _ _ _ _ _ _, (Q3.put _ _).alc _, alc (below_put2 hS3 (by first | exact hle1.out | exact hle2.out | exact hle3.out | exact hle4.out | exact hS3.size) _ _) _⟩) | (with_reducible exact ⟨_, _, rfl, rfl, (R3.put _ _).alc _, c2_newp w3 _ _ _ _ _ _, alc (below_put2 hS3 (by first | exact hle1.out | exact hle2.out | exact hle3.out | exact hle4.out | exact hS3.size) _ _) _⟩) | (with_reducible exact ⟨_, _, rfl, rfl, c2_newp w3 _ _ _ _ _ _, (R3.put _ _).alc _, alc (below_put2 hS3 (by first | exact hle1.out | exact hle2.out | exact hle3.out | exact hle4.out | exact hS3.size) _ _) _⟩) | (with_reducible exact ⟨_, _, rfl, rfl, (P3.put _ _).else2 (by first | exact ne1 | exact ne2 | exact Nat.succ_ne_self _ | exact (Nat.succ_ne_self _).symm) _ _, (Q3.else2 (by first | exact ne1 | exact ne2 | exact Nat.succ_ne_self _ | exact (Nat.succ_ne_self _).symm) _ _).put _ _, below_put2 (below_put2 hS3 (by first | exact hle1.out | exact hle2.out | exact hle3.out | exact hle4.out | exact hS3.size) _ _) (by first | exact hle1.out | exact hle2.out | exact hle3.out | exact hle4.out | exact hS3.size) _ _⟩) | (with_reducible exact ⟨_, _, rfl, rfl, (P3.put _ _).else2 (by first | exact ne1 | exact ne2 | exact Nat.succ_ne_self _ | exact (Nat.succ_ne_self _).symm) _ _, (R3.else2 (by first | exact ne1 | exact ne2 | exact Nat.succ_ne_self _ | exact (Nat.succ_ne_self _).symm) _ _).put _ _, below_put2 (below_put2 hS3 (by first | exact hle1.out | exact hle2.out | exact hle3.out | exact hle4.out | exact hS3.size) _ _) (by first | exact hle1.out | exact hle2.out | exact hle3.out | exact hle4.out | exact hS3.size) _ _⟩) | (with_reducible exact ⟨_, _, rfl, rfl, (Q3.put _ _).else2 (by first | exact ne1 | exact ne2 | exact Nat.succ_ne_self _ | exact (Nat.succ_ne_self _).symm) _ _, (P3.else2 (by first | exact ne1 | exact ne2 | exact Nat.succ_ne_self _ | exact (Nat.succ_ne_self _).symm) _ _).put _ _, below_put2 (below_put2 hS3 (by first | exact hle1.out | exact hle2.out | exact hle3.out | exact hle4.out | exact hS3.size) _ _) (by first | exact hle1.out | exact hle2.out | exact hle3.out | exact hle4.out | exact hS3.size) _ _⟩) | (with_reducible exact ⟨_, _, rfl, rfl, (Q3.put _ _).else2 (by first | exact ne1 | exact ne2 | exact Nat.succ_ne_self _ | exact (Nat.succ_ne_self _).symm) _ _, (R3.else2 (by first | exact ne1 | exact ne2 | exact Nat.succ_ne_self _ | exact (Nat.succ_ne_self _).symm) _ _).put _ _, below_put2 (below_put2 hS3 (by first | exact hle1.out | exact hle2.out | exact hle3.out | exact hle4.out | exact hS3.size) _ _) (by first | exact hle1.out | exact hle2.out | exact hle3.out | exact hle4.out | exact hS3.size) _ _⟩) | (with_reducible exact ⟨_, _, rfl, rfl, (R3.put _ _).else2 (by first | exact ne1 | exact ne2 | exact Nat.succ_ne_self _ | exact (Nat.succ_ne_self _).symm) _ _, (P3.else2 (by first | exact ne1 | exact ne2 | exact Nat.succ_ne_self _ | exact (Nat.succ_ne_self _).symm) _ _).put _ _, below_put2 (below_put2 hS3 (by first | exact hle1.out | exact hle2.out | exact hle3.out | exact hle4.out | exact hS3.size) _ _) (by first | exact hle1.out | exact hle2.out | exact hle3.out | exact hle4.out | exact hS3.size) _ _⟩) | (with_reducible exact ⟨_, _, rfl, rfl, (R3.put _ _).else2 (by first | exact ne1 | exact ne2 | exact Nat.succ_ne_self _ | exact (Nat.succ_ne_self _).symm) _ _, (Q3.else2 (by first | exact ne1 | exact ne2 | exact Nat.succ_ne_self _ | exact (Nat.succ_ne_self _).symm) _ _).put _ _, below_put2 (below_put2 hS3 (by first | exact hle1.out | exact hle2.out | exact hle3.out | exact hle4.out | exact hS3.size) _ _) (by first | exact hle1.out | exact hle2.out | exact hle3.out | exact hle4.out | exact hS3.size) _ _⟩))
  case rest =>
  obtain ⟨ba, bb, rfl, rfl, FA, FB, B2⟩ := hcut
  have HB1 := Lib.hid (thn HB0.out B2)
  clear L0 L1 L2 L3 L4 L5 hle1 hle2 HB0 B2 HW1 HW2
  obtain ⟨a0, a1, a2_, a3, al⟩ := id FA
  go_wp2_with fail
  refine (HD1.out _).mono ?_
  rintro e w4 ⟨rfl, hb⟩
  clear a0 a1 a2_ a3 al
  replace FA := FA.next hb
  replace FB := FB.next hb
  replace HB1 := Lib.hid (thn HB1.out hb)
  clear hb HD1
  go_wp2_with fail
  have L0 : ∀ w', Below w4.heap.size w4 w' → w'.cell? ⟨ba, 0, none⟩ = some (.int .i64 X) := fun _ h => (FA.next h).c0
  have L1 : ∀ w', Below w4.heap.size w4 w' → w'.cell? ⟨ba, 1, none⟩ = some (.int .i64 Y) := fun _ h => (FA.next h).c1
  have L2 : ∀ w', Below w4.heap.size w4 w' → w'.cell? ⟨bb, 0, none⟩ = some (.int .i64 Z) := fun _ h => (FB.next h).c0
  have L3 : ∀ w', Below w4.heap.size w4 w' → w'.cell? ⟨bb, 1, none⟩ = some (.int .i64 U) := fun _ h => (FB.next h).c1
  clear FA FB
  go_region_held3 (fun w' => Below w4.heap.size w4 w') (first | with_reducible exact bdrew _ | with_reducible exact hS1 | with_reducible exact hS2 | with_reducible exact hS3 | with_reducible exact hS4)
    (first | (go_at_call 26; with_reducible refine (HC.out _).mono ?_; rintro e x1 ⟨rfl, hb1⟩; have hS1 := thn (bdrew w4) hb1) | (go_at_call 25; with_reducible refine (HG1.out _).mono ?_; rintro e x2 ⟨rfl, hb2⟩; have hS2 := thn hS1 hb2) | (go_at_call 24; with_reducible refine (HD2.out _).mono ?_; rintro e x3 ⟨rfl, hb3⟩; have hS3 := thn hS2 hb3) | (go_at_call 25; with_reducible refine (HG2.out _).mono ?_; rintro e x4 ⟨rfl, hb4⟩; have hS4 := thn hS3 hb4))
  have HB2 := Lib.hid (thn HB1.out hS4)
  clear L0 L1 L2 L3 hS1 hS2 hS3 hS4 hb1 hb2 hb3 hb4
  go_wp2_with fail
  go_ret3
  exact ⟨rfl, HB2.out⟩
theorem offset_ne (a b c d p q : Int) (w : World) (h1 : pvd a b = true) (h2 : pvd c d = true) (h3 : pvd p q = true) (hne : ¬ (a = c ∧ b = d)) :
    Calls Try.prog 6 #[ptV a b, ptV c d, ptV p q] w fun e w' => e = .returned (.tuple #[.int .i64 (lnv (-((c - a) * (q - b) - (d - b) * (p - a))) ((c - a) * (c - a) + (d - b) * (d - b))), .int .i64 (lnv ((c - a) * (p - a) + (d - b) * (q - b)) ((c - a) * (c - a) + (d - b) * (d - b))), .int .i64 0]) ∧ Below w.heap.size w w' := by
  by_cases h : a = c
  · exact offset_1 a b c d p q w h1 h2 h3 h (fun e => hne ⟨h, e⟩)
  · exact offset_0 a b c d p q w h1 h2 h3 h
end Go.Proofs.Ytpgpdglmgpjhlaa
