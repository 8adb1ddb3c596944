/- The ends of half circles: turn.At. -/
import Derived.Test.YtgabdnabcpdinaaHldB
namespace Go.Proofs.Ytgabdnabcpdinaa
open Go.RowKit Go.Joins Fdk
set_option linter.unusedVariables false
/-- all blocks but one are as they were, and the new ones. -/
structure Bx (bk : Nat) (w w' : World) : Prop where
  size : w.heap.size ≤ w'.heap.size
  block : ∀ k, k < w.heap.size → k ≠ bk → w'.heap[k]? = w.heap[k]?
theorem Bx.of {bk : Nat} {w v : World} (h : Below w.heap.size w v) : Bx bk w v := ⟨h.size, fun k hk _ => h.block k hk⟩
theorem Bx.thn {bk : Nat} {w v u : World} (h : Bx bk w v) (k : Below v.heap.size v u) : Bx bk w u :=
  ⟨Nat.le_trans h.size k.size, fun j hj hb => (k.block j (Nat.lt_of_lt_of_le hj h.size)).trans (h.block j hj hb)⟩
theorem Bx.put {bk : Nat} {w v : World} (h : Bx bk w v) {p : Addr} (hp : p.block = bk) (x : Value) : Bx bk w (v.setCell p x) :=
  ⟨by have := h.size; simpa using this, fun k hk hb => (Below.heap_setCell v p x k (by rw [hp]; exact hb)).trans (h.block k hk hb)⟩
theorem C2.bx {bk b : Nat} {w v : World} {x y : Value} (k : C2 w b x y) (h : Bx bk w v) (hb : b ≠ bk) : C2 v b x y :=
  have e := h.block b k.lt hb
  ⟨(World.cell?_of_block (w := w) e).trans k.c0, (World.cell?_of_block (w := w) e).trans k.c1, (World.frozen?_of_block (w := w) e).trans k.f0, (World.frozen?_of_block (w := w) e).trans k.f1, Nat.lt_of_lt_of_le k.lt h.size⟩
theorem C5.bx {bk b : Nat} {w v : World} {x0 x1 x2 x3 x4 : Value} (k : C5 w b x0 x1 x2 x3 x4) (h : Bx bk w v) (hb : b ≠ bk) : C5 v b x0 x1 x2 x3 x4 :=
  have e := h.block b k.lt hb
  ⟨(World.cell?_of_block (w := w) e).trans k.c0, (World.cell?_of_block (w := w) e).trans k.c1, (World.cell?_of_block (w := w) e).trans k.c2, (World.cell?_of_block (w := w) e).trans k.c3, (World.cell?_of_block (w := w) e).trans k.c4, (World.frozen?_of_block (w := w) e).trans k.f0, (World.frozen?_of_block (w := w) e).trans k.f1, (World.frozen?_of_block (w := w) e).trans k.f2, (World.frozen?_of_block (w := w) e).trans k.f3, (World.frozen?_of_block (w := w) e).trans k.f4, Nat.lt_of_lt_of_le k.lt h.size⟩
theorem side_any (x y r f s v : Int) (w : World) (hv : -129600000 ≤ v ∧ v ≤ 129600000) :
    Calls Try.prog 48 #[arcV x y r f s, .int .i64 v] w fun e w' => e = .returned (.int .i64 (if s < 0 then -v else v)) ∧ Below w.heap.size w w' := by
  have e0 : IntKind.i64.wrap (-v) = -v := IntWalk.i64_in _ (by omega)
  have T := c5_new w (.int .i64 x) (.int .i64 y) (.int .i64 r) (.int .i64 f) (.int .i64 s) 41
  obtain ⟨t0, t1, t2, t3, t4, t5, t6, t7, t8, t9, tl⟩ := T
  by_cases h : s < 0
  · have HI := Lib.hid (if_pos h : (if s < 0 then -v else v) = -v)
    go_enter Try.func48, Try.ntmps48
    go_wp2
    go_ret
    exact ⟨by first | rfl | (rw [HI.out]; rfl), below_alloc1 w _⟩
  · have HI := Lib.hid (if_neg h : (if s < 0 then -v else v) = v)
    go_enter Try.func48, Try.ntmps48
    go_wp2
    go_ret
    exact ⟨by first | rfl | (rw [HI.out]; rfl), below_alloc1 w _⟩
/-- b parts of c times a, whole. -/
theorem mdr2_any (a b c : Int) (w : World) (a0 : 0 ≤ a) (a1 : a ≤ 8589934592) (b0 : 0 ≤ b) (b1 : b ≤ 134217728) (c0 : 1 ≤ c) (c1 : c ≤ 8589934592) :
    Calls Try.prog 46 #[.int .i64 a, .int .i64 b, .int .i64 c] w fun e w' => e = TwoI (qnear (a * b) c) 0 ∧ Drew w w' := by
  have hq : Hid (Calls Try.prog 49 #[.int .i64 a, .int .i64 b, .int .i64 c, .int .u8 2] w fun e w' => e = TwoI (qnear (a * b) c) 0 ∧ Drew w w') := by
    have i1 : iabs a = a := by unfold iabs; rw [if_neg (by omega)]
    have i2 : iabs b = b := by unfold iabs; rw [if_neg (by omega)]
    have k0 : 0 ≤ a * b := Int.mul_nonneg a0 b0
    have k1 : a * b / c ≤ a * b := Int.ediv_le_self _ k0
    have k2 := pb (p := a) (q := b) (A := 8589934592) (B := 134217728) 1152921504606846976 (by omega) (by omega) (by omega) (by decide)
    exact Lib.hid (scale2_pp a b c w (by omega) (by omega) (by omega) (by omega) c0 (by omega) (by rw [i1, i2]; omega) (by rw [i1, i2]; omega) (lt_dec.1 (by omega)) (lt_dec.1 (by omega)) (by rw [i1, i2]))
  go_enter Try.func46, Try.ntmps46
  go_wp2_with fail
  refine hq.out.mono ?_
  rintro e w' ⟨rfl, hd⟩
  have HD := Lib.hid hd
  clear hd
  go_wp2
  go_ret2
  exact ⟨rfl, HD.out⟩
theorem qn_self {n s : Int} (h : 1 ≤ n) : qnear (n * s) n = s := by
  unfold qnear
  rw [show 2 * (n * s) + n = n + (2 * n) * s by rw [Int.mul_assoc]; omega, Int.add_mul_ediv_left _ _ (by omega), Int.ediv_eq_zero_of_lt (by omega) (by omega)]
  omega
theorem qn_0 {n s : Int} (h : 1 ≤ n) : qnear (0 * s) n = 0 := by
  unfold qnear
  rw [show 2 * (0 * s) + n = n by rw [Int.zero_mul]; omega, Int.ediv_eq_zero_of_lt (by omega) (by omega)]
theorem len_b {r : Int} (h0 : 1 ≤ r) (h1 : r ≤ 2000000) : 3 ≤ qnear (r * 64800000) 20626481 ∧ qnear (r * 64800000) 20626481 ≤ 6283186 := by
  unfold qnear
  constructor
  · refine Int.le_ediv_of_mul_le (by omega) (by omega)
  · have := Int.ediv_le_ediv (a := 2 * (r * 64800000) + 20626481) (b := 2 * (2000000 * 64800000) + 20626481) (c := 2 * 20626481) (by omega) (by omega)
    have e : (2 * (2000000 * 64800000) + 20626481 : Int) / (2 * 20626481) = 6283185 := by decide
    omega

set_option maxRecDepth 4000 in
set_option maxHeartbeats 16000000 in
theorem tat_p00 (x y r f g N p q : Int) (w : World) (h : avd x y r f (64800000) = true) (hN : qnear (r * 64800000) 20626481 = N) (n0 : 3 ≤ N) (n1 : N ≤ 6283186) (hg : (f + (0)) % 129600000 = g) (hX : rayv x y g r = (p, q, 0)) :
    Calls Try.prog 31 #[arcV x y r f (64800000), .int .i64 0] w fun e w' => e = .returned (.tuple #[ptV p q, .int .i64 ((g + (32400000)) % 129600000), .int .i64 0]) ∧ Below w.heap.size w w' := by
  have HL := Lib.hid (fun w => alen_b x y r f (64800000) w h)
  rw [show iabs (64800000) = 64800000 by decide, hN] at HL
  have HR := Lib.hid (fun w => ray_any x y g r w)
  rw [hX] at HR
  have HM := Lib.hid (fun w => mdr2_any 0 64800000 N w (by omega) (by omega) (by omega) (by omega) (by omega) (by omega))
  rw [qn_0 (by omega)] at HM
  have HS1 := Lib.hid (fun w => side_any x y r f (64800000) 0 w (by omega))
  have HS2 := Lib.hid (fun w => side_any x y r f (64800000) 32400000 w (by omega))
  rw [show (if (64800000 : Int) < 0 then -0 else 0) = (0 : Int) by decide] at HS1
  rw [show (if (64800000 : Int) < 0 then -32400000 else 32400000) = (32400000 : Int) by decide] at HS2
  have HT1 := Lib.hid (fun w => turn_any f (0) w)
  rw [hg] at HT1
  have HAb := Lib.hid (fun w => abs_any (64800000) w (by omega) (by omega))
  rw [show iabs (64800000) = 64800000 by decide] at HAb
  have HT2 := Lib.hid (fun w => turn_any g (32400000) w)
  have HV := Lib.hid h
  clear h hg hX hN

  have n2 : ¬ N < 0 := by omega
  have n3 : ¬ 0 > N := by omega
  have n4 : N > 0 := by omega
  have n5 : ¬ N > N := by omega
  have n6 : 0 < N := by omega
  go_enter Try.func31, Try.ntmps31
  go_wp2_with fail
  have B := below_alloc2 w (.cells #[.int .i64 x, .int .i64 y, .int .i64 r, .int .i64 f, .int .i64 (64800000)] 41) (.cells #[.int .i64 0, .int .i64 0] 30)
  have T := (c5_new w (.int .i64 x) (.int .i64 y) (.int .i64 r) (.int .i64 f) (.int .i64 (64800000)) 41).alc (.cells #[.int .i64 0, .int .i64 0] 30)
  have Z := c2_new (w.alloc (.cells #[.int .i64 x, .int .i64 y, .int .i64 r, .int .i64 f, .int .i64 (64800000)] 41)) (.int .i64 0) (.int .i64 0) 30
  rw [show (w.alloc (.cells #[.int .i64 x, .int .i64 y, .int .i64 r, .int .i64 f, .int .i64 (64800000)] 41)).heap.size = w.heap.size + 1 by simp] at Z
  generalize (w.alloc (.cells #[.int .i64 x, .int .i64 y, .int .i64 r, .int .i64 f, .int .i64 (64800000)] 41)).alloc (.cells #[.int .i64 0, .int .i64 0] 30) = w0 at *
  refine (avalid_any _ _ _ _ _ _).mono ?_
  rintro e w1 ⟨rfl, hb⟩
  rw [HV.out]
  replace B := thn B hb
  replace T := T.next hb
  replace Z := Z.next hb
  clear hb
  obtain ⟨t0, t1, t2, t3, t4, t5, t6, t7, t8, t9, tl⟩ := id T
  go_wp2_with fail
  refine (HL.out _).mono ?_
  rintro e w2 ⟨rfl, hb⟩
  clear t0 t1 t2 t3 t4 t5 t6 t7 t8 t9 tl
  replace B := thn B hb
  replace T := T.next hb
  replace Z := Z.next hb
  clear hb
  obtain ⟨t0, t1, t2, t3, t4, t5, t6, t7, t8, t9, tl⟩ := id T
  go_wp2_with (go_at_call 45; refine (HAb.out _).mono ?_; rintro e w' ⟨rfl, rfl⟩)
  refine (HM.out _).mono ?_
  rintro e w3 ⟨rfl, hd⟩
  clear t0 t1 t2 t3 t4 t5 t6 t7 t8 t9 tl
  replace B := thn B (hd.below _)
  replace T := T.next (hd.below _)
  replace Z := Z.next (hd.below _)
  clear hd
  go_wp2_with fail
  have L0 : ∀ w', Below w3.heap.size w3 w' → w'.cell? ⟨w.heap.size, 0, none⟩ = some (.int .i64 x) := fun _ h => (T.next h).c0
  have L1 : ∀ w', Below w3.heap.size w3 w' → w'.cell? ⟨w.heap.size, 1, none⟩ = some (.int .i64 y) := fun _ h => (T.next h).c1
  have L2 : ∀ w', Below w3.heap.size w3 w' → w'.cell? ⟨w.heap.size, 2, none⟩ = some (.int .i64 r) := fun _ h => (T.next h).c2
  have L3 : ∀ w', Below w3.heap.size w3 w' → w'.cell? ⟨w.heap.size, 3, none⟩ = some (.int .i64 f) := fun _ h => (T.next h).c3
  have L4 : ∀ w', Below w3.heap.size w3 w' → w'.cell? ⟨w.heap.size, 4, none⟩ = some (.int .i64 (64800000)) := fun _ h => (T.next h).c4
  have HB := Lib.hid (And.intro B (And.intro T Z))
  clear B T Z
  go_region_held3 (fun w' => Below w3.heap.size w3 w') (first | with_reducible exact bdrew _ | with_reducible exact hS1)
    (first | (go_at_call 48; with_reducible refine (HS1.out _).mono ?_; rintro e x1 ⟨rfl, hb1⟩; have hS1 := thn (bdrew w3) hb1) | (go_at_call 47; with_reducible refine (HT1.out _).mono ?_; rintro e w' ⟨rfl, rfl⟩))
  clear L0 L1 L2 L3 L4
  obtain ⟨B, T, Z⟩ := HB.out
  clear HB
  replace B := thn B hS1
  replace T := T.next hS1
  replace Z := Z.next hS1
  clear hS1 hb1
  obtain ⟨t0, t1, t2, t3, t4, t5, t6, t7, t8, t9, tl⟩ := id T
  go_wp2_with fail
  refine (HR.out _).mono ?_
  rintro e w4 ⟨rfl, hb⟩
  clear t0 t1 t2 t3 t4 t5 t6 t7 t8 t9 tl
  have hqz : w4.heap.size ≠ w.heap.size + 1 := by have := (Z.next hb).lt; omega
  have Q := c2_new w4 (.int .i64 p) (.int .i64 q) 30
  replace B := alc (thn B hb) (.cells #[.int .i64 p, .int .i64 q] 30)
  replace T := (T.next hb).alc (.cells #[.int .i64 p, .int .i64 q] 30)
  replace Z := (Z.next hb).alc (.cells #[.int .i64 p, .int .i64 q] 30)
  clear hb
  go_upto_region 12 with fail
  generalize w4.alloc (.cells #[.int .i64 p, .int .i64 q] 30) = v at *
  generalize w4.heap.size = bq at *
  have htz : w.heap.size ≠ w.heap.size + 1 := by omega
  have L0 : ∀ w', Bx (w.heap.size + 1) v w' → w'.cell? ⟨w.heap.size, 0, none⟩ = some (.int .i64 x) := fun _ h => (T.bx h htz).c0
  have L1 : ∀ w', Bx (w.heap.size + 1) v w' → w'.cell? ⟨w.heap.size, 1, none⟩ = some (.int .i64 y) := fun _ h => (T.bx h htz).c1
  have L2 : ∀ w', Bx (w.heap.size + 1) v w' → w'.cell? ⟨w.heap.size, 2, none⟩ = some (.int .i64 r) := fun _ h => (T.bx h htz).c2
  have L3 : ∀ w', Bx (w.heap.size + 1) v w' → w'.cell? ⟨w.heap.size, 3, none⟩ = some (.int .i64 f) := fun _ h => (T.bx h htz).c3
  have L4 : ∀ w', Bx (w.heap.size + 1) v w' → w'.cell? ⟨w.heap.size, 4, none⟩ = some (.int .i64 (64800000)) := fun _ h => (T.bx h htz).c4
  have L5 : ∀ w', Bx (w.heap.size + 1) v w' → w'.cell? ⟨bq, 0, none⟩ = some (.int .i64 p) := fun _ h => (Q.bx h hqz).c0
  have L6 : ∀ w', Bx (w.heap.size + 1) v w' → w'.cell? ⟨bq, 1, none⟩ = some (.int .i64 q) := fun _ h => (Q.bx h hqz).c1
  clear T Q
  go_region_held3 (fun w' => Bx (w.heap.size + 1) v w') (first | with_reducible exact Bx.of (bdrew _) | with_reducible exact hS2 | with_reducible exact Bx.put (Bx.put hS2 rfl _) rfl _)
    (first | (go_at_call 48; with_reducible refine (HS2.out _).mono ?_; rintro e x2 ⟨rfl, hb2⟩; have hQ2 := thn (bdrew v) hb2; have hS2 : Bx (w.heap.size + 1) v x2 := Bx.of hQ2; have Z2 := Z.next hQ2; have B2 := thn B hQ2; have q0 := Z2.c0; have q1 := Z2.c1; have r0 := Z2.f0; have r1 := Z2.f1) | (go_at_call 47; with_reducible refine (HT2.out _).mono ?_; rintro e w' ⟨rfl, rfl⟩))
  clear L0 L1 L2 L3 L4 L5 L6 q0 q1 r0 r1
  go_wp2_with fail
  have Z5 := Z2.put (.int .i64 p) (.int .i64 q)
  have B5 := below_put2 B2 (b := w.heap.size + 1) (Nat.le_succ _) (.int .i64 p) (.int .i64 q)
  obtain ⟨z0, z1, z2, z3, zl⟩ := Z5
  exact bodyPost_ret (v := .tuple #[ptV p q, .int .i64 ((g + (32400000)) % 129600000), .int .i64 0]) (by simp [results, Try.results31, go_sem, z0, z1]) rfl ⟨rfl, B5⟩
set_option maxRecDepth 4000 in
set_option maxHeartbeats 16000000 in
theorem tat_p02 (x y r f g N p q : Int) (w : World) (h : avd x y r f (64800000) = true) (hN : qnear (r * 64800000) 20626481 = N) (n0 : 3 ≤ N) (n1 : N ≤ 6283186) (hg : (f + (0)) % 129600000 = g) (hX : rayv x y g r = (0, 0, 2)) :
    Calls Try.prog 31 #[arcV x y r f (64800000), .int .i64 0] w fun e w' => e = .returned (.tuple #[ptV 0 0, .int .i64 0, .int .i64 2]) ∧ Below w.heap.size w w' := by
  have HL := Lib.hid (fun w => alen_b x y r f (64800000) w h)
  rw [show iabs (64800000) = 64800000 by decide, hN] at HL
  have HR := Lib.hid (fun w => ray_any x y g r w)
  rw [hX] at HR
  have HM := Lib.hid (fun w => mdr2_any 0 64800000 N w (by omega) (by omega) (by omega) (by omega) (by omega) (by omega))
  rw [qn_0 (by omega)] at HM
  have HS1 := Lib.hid (fun w => side_any x y r f (64800000) 0 w (by omega))
  have HS2 := Lib.hid (fun w => side_any x y r f (64800000) 32400000 w (by omega))
  rw [show (if (64800000 : Int) < 0 then -0 else 0) = (0 : Int) by decide] at HS1
  rw [show (if (64800000 : Int) < 0 then -32400000 else 32400000) = (32400000 : Int) by decide] at HS2
  have HT1 := Lib.hid (fun w => turn_any f (0) w)
  rw [hg] at HT1
  have HAb := Lib.hid (fun w => abs_any (64800000) w (by omega) (by omega))
  rw [show iabs (64800000) = 64800000 by decide] at HAb
  have HT2 := Lib.hid (fun w => turn_any g (32400000) w)
  have HV := Lib.hid h
  clear h hg hX hN

  have n2 : ¬ N < 0 := by omega
  have n3 : ¬ 0 > N := by omega
  have n4 : N > 0 := by omega
  have n5 : ¬ N > N := by omega
  have n6 : 0 < N := by omega
  go_enter Try.func31, Try.ntmps31
  go_wp2_with fail
  have B := below_alloc2 w (.cells #[.int .i64 x, .int .i64 y, .int .i64 r, .int .i64 f, .int .i64 (64800000)] 41) (.cells #[.int .i64 0, .int .i64 0] 30)
  have T := (c5_new w (.int .i64 x) (.int .i64 y) (.int .i64 r) (.int .i64 f) (.int .i64 (64800000)) 41).alc (.cells #[.int .i64 0, .int .i64 0] 30)
  have Z := c2_new (w.alloc (.cells #[.int .i64 x, .int .i64 y, .int .i64 r, .int .i64 f, .int .i64 (64800000)] 41)) (.int .i64 0) (.int .i64 0) 30
  rw [show (w.alloc (.cells #[.int .i64 x, .int .i64 y, .int .i64 r, .int .i64 f, .int .i64 (64800000)] 41)).heap.size = w.heap.size + 1 by simp] at Z
  generalize (w.alloc (.cells #[.int .i64 x, .int .i64 y, .int .i64 r, .int .i64 f, .int .i64 (64800000)] 41)).alloc (.cells #[.int .i64 0, .int .i64 0] 30) = w0 at *
  refine (avalid_any _ _ _ _ _ _).mono ?_
  rintro e w1 ⟨rfl, hb⟩
  rw [HV.out]
  replace B := thn B hb
  replace T := T.next hb
  replace Z := Z.next hb
  clear hb
  obtain ⟨t0, t1, t2, t3, t4, t5, t6, t7, t8, t9, tl⟩ := id T
  go_wp2_with fail
  refine (HL.out _).mono ?_
  rintro e w2 ⟨rfl, hb⟩
  clear t0 t1 t2 t3 t4 t5 t6 t7 t8 t9 tl
  replace B := thn B hb
  replace T := T.next hb
  replace Z := Z.next hb
  clear hb
  obtain ⟨t0, t1, t2, t3, t4, t5, t6, t7, t8, t9, tl⟩ := id T
  go_wp2_with (go_at_call 45; refine (HAb.out _).mono ?_; rintro e w' ⟨rfl, rfl⟩)
  refine (HM.out _).mono ?_
  rintro e w3 ⟨rfl, hd⟩
  clear t0 t1 t2 t3 t4 t5 t6 t7 t8 t9 tl
  replace B := thn B (hd.below _)
  replace T := T.next (hd.below _)
  replace Z := Z.next (hd.below _)
  clear hd
  go_wp2_with fail
  have L0 : ∀ w', Below w3.heap.size w3 w' → w'.cell? ⟨w.heap.size, 0, none⟩ = some (.int .i64 x) := fun _ h => (T.next h).c0
  have L1 : ∀ w', Below w3.heap.size w3 w' → w'.cell? ⟨w.heap.size, 1, none⟩ = some (.int .i64 y) := fun _ h => (T.next h).c1
  have L2 : ∀ w', Below w3.heap.size w3 w' → w'.cell? ⟨w.heap.size, 2, none⟩ = some (.int .i64 r) := fun _ h => (T.next h).c2
  have L3 : ∀ w', Below w3.heap.size w3 w' → w'.cell? ⟨w.heap.size, 3, none⟩ = some (.int .i64 f) := fun _ h => (T.next h).c3
  have L4 : ∀ w', Below w3.heap.size w3 w' → w'.cell? ⟨w.heap.size, 4, none⟩ = some (.int .i64 (64800000)) := fun _ h => (T.next h).c4
  have HB := Lib.hid (And.intro B (And.intro T Z))
  clear B T Z
  go_region_held3 (fun w' => Below w3.heap.size w3 w') (first | with_reducible exact bdrew _ | with_reducible exact hS1)
    (first | (go_at_call 48; with_reducible refine (HS1.out _).mono ?_; rintro e x1 ⟨rfl, hb1⟩; have hS1 := thn (bdrew w3) hb1) | (go_at_call 47; with_reducible refine (HT1.out _).mono ?_; rintro e w' ⟨rfl, rfl⟩))
  clear L0 L1 L2 L3 L4
  obtain ⟨B, T, Z⟩ := HB.out
  clear HB
  replace B := thn B hS1
  replace T := T.next hS1
  replace Z := Z.next hS1
  clear hS1 hb1
  obtain ⟨t0, t1, t2, t3, t4, t5, t6, t7, t8, t9, tl⟩ := id T
  go_wp2_with fail
  refine (HR.out _).mono ?_
  rintro e w4 ⟨rfl, hb⟩
  clear t0 t1 t2 t3 t4 t5 t6 t7 t8 t9 tl
  have hqz : w4.heap.size ≠ w.heap.size + 1 := by have := (Z.next hb).lt; omega
  have Q := c2_new w4 (.int .i64 0) (.int .i64 0) 30
  replace B := alc (thn B hb) (.cells #[.int .i64 0, .int .i64 0] 30)
  replace T := (T.next hb).alc (.cells #[.int .i64 0, .int .i64 0] 30)
  replace Z := (Z.next hb).alc (.cells #[.int .i64 0, .int .i64 0] 30)
  clear hb
  obtain ⟨z0, z1, z2, z3, zl⟩ := id Z
  go_wp2_with fail
  clear z0 z1 z2 z3 zl
  have Z5 := Z.put (.int .i64 0) (.int .i64 0)
  have B5 := below_put2 B (b := w.heap.size + 1) (Nat.le_succ _) (.int .i64 0) (.int .i64 0)
  obtain ⟨z0, z1, z2, z3, zl⟩ := Z5
  exact bodyPost_ret (v := .tuple #[ptV 0 0, .int .i64 0, .int .i64 2]) (by simp [results, Try.results31, go_sem, z0, z1]) rfl ⟨rfl, B5⟩
set_option maxRecDepth 4000 in
set_option maxHeartbeats 16000000 in
theorem tat_p10 (x y r f g N p q : Int) (w : World) (h : avd x y r f (64800000) = true) (hN : qnear (r * 64800000) 20626481 = N) (n0 : 3 ≤ N) (n1 : N ≤ 6283186) (hg : (f + (64800000)) % 129600000 = g) (hX : rayv x y g r = (p, q, 0)) :
    Calls Try.prog 31 #[arcV x y r f (64800000), .int .i64 N] w fun e w' => e = .returned (.tuple #[ptV p q, .int .i64 ((g + (32400000)) % 129600000), .int .i64 0]) ∧ Below w.heap.size w w' := by
  have HL := Lib.hid (fun w => alen_b x y r f (64800000) w h)
  rw [show iabs (64800000) = 64800000 by decide, hN] at HL
  have HR := Lib.hid (fun w => ray_any x y g r w)
  rw [hX] at HR
  have HM := Lib.hid (fun w => mdr2_any N 64800000 N w (by omega) (by omega) (by omega) (by omega) (by omega) (by omega))
  rw [qn_self (by omega)] at HM
  have HS1 := Lib.hid (fun w => side_any x y r f (64800000) 64800000 w (by omega))
  have HS2 := Lib.hid (fun w => side_any x y r f (64800000) 32400000 w (by omega))
  rw [show (if (64800000 : Int) < 0 then -64800000 else 64800000) = (64800000 : Int) by decide] at HS1
  rw [show (if (64800000 : Int) < 0 then -32400000 else 32400000) = (32400000 : Int) by decide] at HS2
  have HT1 := Lib.hid (fun w => turn_any f (64800000) w)
  rw [hg] at HT1
  have HAb := Lib.hid (fun w => abs_any (64800000) w (by omega) (by omega))
  rw [show iabs (64800000) = 64800000 by decide] at HAb
  have HT2 := Lib.hid (fun w => turn_any g (32400000) w)
  have HV := Lib.hid h
  clear h hg hX hN

  have n2 : ¬ N < 0 := by omega
  have n3 : ¬ 0 > N := by omega
  have n4 : N > 0 := by omega
  have n5 : ¬ N > N := by omega
  have n6 : 0 < N := by omega
  go_enter Try.func31, Try.ntmps31
  go_wp2_with fail
  have B := below_alloc2 w (.cells #[.int .i64 x, .int .i64 y, .int .i64 r, .int .i64 f, .int .i64 (64800000)] 41) (.cells #[.int .i64 0, .int .i64 0] 30)
  have T := (c5_new w (.int .i64 x) (.int .i64 y) (.int .i64 r) (.int .i64 f) (.int .i64 (64800000)) 41).alc (.cells #[.int .i64 0, .int .i64 0] 30)
  have Z := c2_new (w.alloc (.cells #[.int .i64 x, .int .i64 y, .int .i64 r, .int .i64 f, .int .i64 (64800000)] 41)) (.int .i64 0) (.int .i64 0) 30
  rw [show (w.alloc (.cells #[.int .i64 x, .int .i64 y, .int .i64 r, .int .i64 f, .int .i64 (64800000)] 41)).heap.size = w.heap.size + 1 by simp] at Z
  generalize (w.alloc (.cells #[.int .i64 x, .int .i64 y, .int .i64 r, .int .i64 f, .int .i64 (64800000)] 41)).alloc (.cells #[.int .i64 0, .int .i64 0] 30) = w0 at *
  refine (avalid_any _ _ _ _ _ _).mono ?_
  rintro e w1 ⟨rfl, hb⟩
  rw [HV.out]
  replace B := thn B hb
  replace T := T.next hb
  replace Z := Z.next hb
  clear hb
  obtain ⟨t0, t1, t2, t3, t4, t5, t6, t7, t8, t9, tl⟩ := id T
  go_wp2_with fail
  refine (HL.out _).mono ?_
  rintro e w2 ⟨rfl, hb⟩
  clear t0 t1 t2 t3 t4 t5 t6 t7 t8 t9 tl
  replace B := thn B hb
  replace T := T.next hb
  replace Z := Z.next hb
  clear hb
  obtain ⟨t0, t1, t2, t3, t4, t5, t6, t7, t8, t9, tl⟩ := id T
  go_wp2_with (go_at_call 45; refine (HAb.out _).mono ?_; rintro e w' ⟨rfl, rfl⟩)
  refine (HM.out _).mono ?_
  rintro e w3 ⟨rfl, hd⟩
  clear t0 t1 t2 t3 t4 t5 t6 t7 t8 t9 tl
  replace B := thn B (hd.below _)
  replace T := T.next (hd.below _)
  replace Z := Z.next (hd.below _)
  clear hd
  go_wp2_with fail
  have L0 : ∀ w', Below w3.heap.size w3 w' → w'.cell? ⟨w.heap.size, 0, none⟩ = some (.int .i64 x) := fun _ h => (T.next h).c0
  have L1 : ∀ w', Below w3.heap.size w3 w' → w'.cell? ⟨w.heap.size, 1, none⟩ = some (.int .i64 y) := fun _ h => (T.next h).c1
  have L2 : ∀ w', Below w3.heap.size w3 w' → w'.cell? ⟨w.heap.size, 2, none⟩ = some (.int .i64 r) := fun _ h => (T.next h).c2
  have L3 : ∀ w', Below w3.heap.size w3 w' → w'.cell? ⟨w.heap.size, 3, none⟩ = some (.int .i64 f) := fun _ h => (T.next h).c3
  have L4 : ∀ w', Below w3.heap.size w3 w' → w'.cell? ⟨w.heap.size, 4, none⟩ = some (.int .i64 (64800000)) := fun _ h => (T.next h).c4
  have HB := Lib.hid (And.intro B (And.intro T Z))
  clear B T Z
  go_region_held3 (fun w' => Below w3.heap.size w3 w') (first | with_reducible exact bdrew _ | with_reducible exact hS1)
    (first | (go_at_call 48; with_reducible refine (HS1.out _).mono ?_; rintro e x1 ⟨rfl, hb1⟩; have hS1 := thn (bdrew w3) hb1) | (go_at_call 47; with_reducible refine (HT1.out _).mono ?_; rintro e w' ⟨rfl, rfl⟩))
  clear L0 L1 L2 L3 L4
  obtain ⟨B, T, Z⟩ := HB.out
  clear HB
  replace B := thn B hS1
  replace T := T.next hS1
  replace Z := Z.next hS1
  clear hS1 hb1
  obtain ⟨t0, t1, t2, t3, t4, t5, t6, t7, t8, t9, tl⟩ := id T
  go_wp2_with fail
  refine (HR.out _).mono ?_
  rintro e w4 ⟨rfl, hb⟩
  clear t0 t1 t2 t3 t4 t5 t6 t7 t8 t9 tl
  have hqz : w4.heap.size ≠ w.heap.size + 1 := by have := (Z.next hb).lt; omega
  have Q := c2_new w4 (.int .i64 p) (.int .i64 q) 30
  replace B := alc (thn B hb) (.cells #[.int .i64 p, .int .i64 q] 30)
  replace T := (T.next hb).alc (.cells #[.int .i64 p, .int .i64 q] 30)
  replace Z := (Z.next hb).alc (.cells #[.int .i64 p, .int .i64 q] 30)
  clear hb
  go_upto_region 12 with fail
  generalize w4.alloc (.cells #[.int .i64 p, .int .i64 q] 30) = v at *
  generalize w4.heap.size = bq at *
  have htz : w.heap.size ≠ w.heap.size + 1 := by omega
  have L0 : ∀ w', Bx (w.heap.size + 1) v w' → w'.cell? ⟨w.heap.size, 0, none⟩ = some (.int .i64 x) := fun _ h => (T.bx h htz).c0
  have L1 : ∀ w', Bx (w.heap.size + 1) v w' → w'.cell? ⟨w.heap.size, 1, none⟩ = some (.int .i64 y) := fun _ h => (T.bx h htz).c1
  have L2 : ∀ w', Bx (w.heap.size + 1) v w' → w'.cell? ⟨w.heap.size, 2, none⟩ = some (.int .i64 r) := fun _ h => (T.bx h htz).c2
  have L3 : ∀ w', Bx (w.heap.size + 1) v w' → w'.cell? ⟨w.heap.size, 3, none⟩ = some (.int .i64 f) := fun _ h => (T.bx h htz).c3
  have L4 : ∀ w', Bx (w.heap.size + 1) v w' → w'.cell? ⟨w.heap.size, 4, none⟩ = some (.int .i64 (64800000)) := fun _ h => (T.bx h htz).c4
  have L5 : ∀ w', Bx (w.heap.size + 1) v w' → w'.cell? ⟨bq, 0, none⟩ = some (.int .i64 p) := fun _ h => (Q.bx h hqz).c0
  have L6 : ∀ w', Bx (w.heap.size + 1) v w' → w'.cell? ⟨bq, 1, none⟩ = some (.int .i64 q) := fun _ h => (Q.bx h hqz).c1
  clear T Q
  go_region_held3 (fun w' => Bx (w.heap.size + 1) v w') (first | with_reducible exact Bx.of (bdrew _) | with_reducible exact hS2 | with_reducible exact Bx.put (Bx.put hS2 rfl _) rfl _)
    (first | (go_at_call 48; with_reducible refine (HS2.out _).mono ?_; rintro e x2 ⟨rfl, hb2⟩; have hQ2 := thn (bdrew v) hb2; have hS2 : Bx (w.heap.size + 1) v x2 := Bx.of hQ2; have Z2 := Z.next hQ2; have B2 := thn B hQ2; have q0 := Z2.c0; have q1 := Z2.c1; have r0 := Z2.f0; have r1 := Z2.f1) | (go_at_call 47; with_reducible refine (HT2.out _).mono ?_; rintro e w' ⟨rfl, rfl⟩))
  clear L0 L1 L2 L3 L4 L5 L6 q0 q1 r0 r1
  go_wp2_with fail
  have Z5 := Z2.put (.int .i64 p) (.int .i64 q)
  have B5 := below_put2 B2 (b := w.heap.size + 1) (Nat.le_succ _) (.int .i64 p) (.int .i64 q)
  obtain ⟨z0, z1, z2, z3, zl⟩ := Z5
  exact bodyPost_ret (v := .tuple #[ptV p q, .int .i64 ((g + (32400000)) % 129600000), .int .i64 0]) (by simp [results, Try.results31, go_sem, z0, z1]) rfl ⟨rfl, B5⟩
set_option maxRecDepth 4000 in
set_option maxHeartbeats 16000000 in
theorem tat_p12 (x y r f g N p q : Int) (w : World) (h : avd x y r f (64800000) = true) (hN : qnear (r * 64800000) 20626481 = N) (n0 : 3 ≤ N) (n1 : N ≤ 6283186) (hg : (f + (64800000)) % 129600000 = g) (hX : rayv x y g r = (0, 0, 2)) :
    Calls Try.prog 31 #[arcV x y r f (64800000), .int .i64 N] w fun e w' => e = .returned (.tuple #[ptV 0 0, .int .i64 0, .int .i64 2]) ∧ Below w.heap.size w w' := by
  have HL := Lib.hid (fun w => alen_b x y r f (64800000) w h)
  rw [show iabs (64800000) = 64800000 by decide, hN] at HL
  have HR := Lib.hid (fun w => ray_any x y g r w)
  rw [hX] at HR
  have HM := Lib.hid (fun w => mdr2_any N 64800000 N w (by omega) (by omega) (by omega) (by omega) (by omega) (by omega))
  rw [qn_self (by omega)] at HM
  have HS1 := Lib.hid (fun w => side_any x y r f (64800000) 64800000 w (by omega))
  have HS2 := Lib.hid (fun w => side_any x y r f (64800000) 32400000 w (by omega))
  rw [show (if (64800000 : Int) < 0 then -64800000 else 64800000) = (64800000 : Int) by decide] at HS1
  rw [show (if (64800000 : Int) < 0 then -32400000 else 32400000) = (32400000 : Int) by decide] at HS2
  have HT1 := Lib.hid (fun w => turn_any f (64800000) w)
  rw [hg] at HT1
  have HAb := Lib.hid (fun w => abs_any (64800000) w (by omega) (by omega))
  rw [show iabs (64800000) = 64800000 by decide] at HAb
  have HT2 := Lib.hid (fun w => turn_any g (32400000) w)
  have HV := Lib.hid h
  clear h hg hX hN

  have n2 : ¬ N < 0 := by omega
  have n3 : ¬ 0 > N := by omega
  have n4 : N > 0 := by omega
  have n5 : ¬ N > N := by omega
  have n6 : 0 < N := by omega
  go_enter Try.func31, Try.ntmps31
  go_wp2_with fail
  have B := below_alloc2 w (.cells #[.int .i64 x, .int .i64 y, .int .i64 r, .int .i64 f, .int .i64 (64800000)] 41) (.cells #[.int .i64 0, .int .i64 0] 30)
  have T := (c5_new w (.int .i64 x) (.int .i64 y) (.int .i64 r) (.int .i64 f) (.int .i64 (64800000)) 41).alc (.cells #[.int .i64 0, .int .i64 0] 30)
  have Z := c2_new (w.alloc (.cells #[.int .i64 x, .int .i64 y, .int .i64 r, .int .i64 f, .int .i64 (64800000)] 41)) (.int .i64 0) (.int .i64 0) 30
  rw [show (w.alloc (.cells #[.int .i64 x, .int .i64 y, .int .i64 r, .int .i64 f, .int .i64 (64800000)] 41)).heap.size = w.heap.size + 1 by simp] at Z
  generalize (w.alloc (.cells #[.int .i64 x, .int .i64 y, .int .i64 r, .int .i64 f, .int .i64 (64800000)] 41)).alloc (.cells #[.int .i64 0, .int .i64 0] 30) = w0 at *
  refine (avalid_any _ _ _ _ _ _).mono ?_
  rintro e w1 ⟨rfl, hb⟩
  rw [HV.out]
  replace B := thn B hb
  replace T := T.next hb
  replace Z := Z.next hb
  clear hb
  obtain ⟨t0, t1, t2, t3, t4, t5, t6, t7, t8, t9, tl⟩ := id T
  go_wp2_with fail
  refine (HL.out _).mono ?_
  rintro e w2 ⟨rfl, hb⟩
  clear t0 t1 t2 t3 t4 t5 t6 t7 t8 t9 tl
  replace B := thn B hb
  replace T := T.next hb
  replace Z := Z.next hb
  clear hb
  obtain ⟨t0, t1, t2, t3, t4, t5, t6, t7, t8, t9, tl⟩ := id T
  go_wp2_with (go_at_call 45; refine (HAb.out _).mono ?_; rintro e w' ⟨rfl, rfl⟩)
  refine (HM.out _).mono ?_
  rintro e w3 ⟨rfl, hd⟩
  clear t0 t1 t2 t3 t4 t5 t6 t7 t8 t9 tl
  replace B := thn B (hd.below _)
  replace T := T.next (hd.below _)
  replace Z := Z.next (hd.below _)
  clear hd
  go_wp2_with fail
  have L0 : ∀ w', Below w3.heap.size w3 w' → w'.cell? ⟨w.heap.size, 0, none⟩ = some (.int .i64 x) := fun _ h => (T.next h).c0
  have L1 : ∀ w', Below w3.heap.size w3 w' → w'.cell? ⟨w.heap.size, 1, none⟩ = some (.int .i64 y) := fun _ h => (T.next h).c1
  have L2 : ∀ w', Below w3.heap.size w3 w' → w'.cell? ⟨w.heap.size, 2, none⟩ = some (.int .i64 r) := fun _ h => (T.next h).c2
  have L3 : ∀ w', Below w3.heap.size w3 w' → w'.cell? ⟨w.heap.size, 3, none⟩ = some (.int .i64 f) := fun _ h => (T.next h).c3
  have L4 : ∀ w', Below w3.heap.size w3 w' → w'.cell? ⟨w.heap.size, 4, none⟩ = some (.int .i64 (64800000)) := fun _ h => (T.next h).c4
  have HB := Lib.hid (And.intro B (And.intro T Z))
  clear B T Z
  go_region_held3 (fun w' => Below w3.heap.size w3 w') (first | with_reducible exact bdrew _ | with_reducible exact hS1)
    (first | (go_at_call 48; with_reducible refine (HS1.out _).mono ?_; rintro e x1 ⟨rfl, hb1⟩; have hS1 := thn (bdrew w3) hb1) | (go_at_call 47; with_reducible refine (HT1.out _).mono ?_; rintro e w' ⟨rfl, rfl⟩))
  clear L0 L1 L2 L3 L4
  obtain ⟨B, T, Z⟩ := HB.out
  clear HB
  replace B := thn B hS1
  replace T := T.next hS1
  replace Z := Z.next hS1
  clear hS1 hb1
  obtain ⟨t0, t1, t2, t3, t4, t5, t6, t7, t8, t9, tl⟩ := id T
  go_wp2_with fail
  refine (HR.out _).mono ?_
  rintro e w4 ⟨rfl, hb⟩
  clear t0 t1 t2 t3 t4 t5 t6 t7 t8 t9 tl
  have hqz : w4.heap.size ≠ w.heap.size + 1 := by have := (Z.next hb).lt; omega
  have Q := c2_new w4 (.int .i64 0) (.int .i64 0) 30
  replace B := alc (thn B hb) (.cells #[.int .i64 0, .int .i64 0] 30)
  replace T := (T.next hb).alc (.cells #[.int .i64 0, .int .i64 0] 30)
  replace Z := (Z.next hb).alc (.cells #[.int .i64 0, .int .i64 0] 30)
  clear hb
  obtain ⟨z0, z1, z2, z3, zl⟩ := id Z
  go_wp2_with fail
  clear z0 z1 z2 z3 zl
  have Z5 := Z.put (.int .i64 0) (.int .i64 0)
  have B5 := below_put2 B (b := w.heap.size + 1) (Nat.le_succ _) (.int .i64 0) (.int .i64 0)
  obtain ⟨z0, z1, z2, z3, zl⟩ := Z5
  exact bodyPost_ret (v := .tuple #[ptV 0 0, .int .i64 0, .int .i64 2]) (by simp [results, Try.results31, go_sem, z0, z1]) rfl ⟨rfl, B5⟩
set_option maxRecDepth 4000 in
set_option maxHeartbeats 16000000 in
theorem tat_n00 (x y r f g N p q : Int) (w : World) (h : avd x y r f (-64800000) = true) (hN : qnear (r * 64800000) 20626481 = N) (n0 : 3 ≤ N) (n1 : N ≤ 6283186) (hg : (f + (0)) % 129600000 = g) (hX : rayv x y g r = (p, q, 0)) :
    Calls Try.prog 31 #[arcV x y r f (-64800000), .int .i64 0] w fun e w' => e = .returned (.tuple #[ptV p q, .int .i64 ((g + (-32400000)) % 129600000), .int .i64 0]) ∧ Below w.heap.size w w' := by
  have HL := Lib.hid (fun w => alen_b x y r f (-64800000) w h)
  rw [show iabs (-64800000) = 64800000 by decide, hN] at HL
  have HR := Lib.hid (fun w => ray_any x y g r w)
  rw [hX] at HR
  have HM := Lib.hid (fun w => mdr2_any 0 64800000 N w (by omega) (by omega) (by omega) (by omega) (by omega) (by omega))
  rw [qn_0 (by omega)] at HM
  have HS1 := Lib.hid (fun w => side_any x y r f (-64800000) 0 w (by omega))
  have HS2 := Lib.hid (fun w => side_any x y r f (-64800000) 32400000 w (by omega))
  rw [show (if (-64800000 : Int) < 0 then -0 else 0) = (0 : Int) by decide] at HS1
  rw [show (if (-64800000 : Int) < 0 then -32400000 else 32400000) = (-32400000 : Int) by decide] at HS2
  have HT1 := Lib.hid (fun w => turn_any f (0) w)
  rw [hg] at HT1
  have HAb := Lib.hid (fun w => abs_any (-64800000) w (by omega) (by omega))
  rw [show iabs (-64800000) = 64800000 by decide] at HAb
  have HT2 := Lib.hid (fun w => turn_any g (-32400000) w)
  have HV := Lib.hid h
  clear h hg hX hN

  have n2 : ¬ N < 0 := by omega
  have n3 : ¬ 0 > N := by omega
  have n4 : N > 0 := by omega
  have n5 : ¬ N > N := by omega
  have n6 : 0 < N := by omega
  go_enter Try.func31, Try.ntmps31
  go_wp2_with fail
  have B := below_alloc2 w (.cells #[.int .i64 x, .int .i64 y, .int .i64 r, .int .i64 f, .int .i64 (-64800000)] 41) (.cells #[.int .i64 0, .int .i64 0] 30)
  have T := (c5_new w (.int .i64 x) (.int .i64 y) (.int .i64 r) (.int .i64 f) (.int .i64 (-64800000)) 41).alc (.cells #[.int .i64 0, .int .i64 0] 30)
  have Z := c2_new (w.alloc (.cells #[.int .i64 x, .int .i64 y, .int .i64 r, .int .i64 f, .int .i64 (-64800000)] 41)) (.int .i64 0) (.int .i64 0) 30
  rw [show (w.alloc (.cells #[.int .i64 x, .int .i64 y, .int .i64 r, .int .i64 f, .int .i64 (-64800000)] 41)).heap.size = w.heap.size + 1 by simp] at Z
  generalize (w.alloc (.cells #[.int .i64 x, .int .i64 y, .int .i64 r, .int .i64 f, .int .i64 (-64800000)] 41)).alloc (.cells #[.int .i64 0, .int .i64 0] 30) = w0 at *
  refine (avalid_any _ _ _ _ _ _).mono ?_
  rintro e w1 ⟨rfl, hb⟩
  rw [HV.out]
  replace B := thn B hb
  replace T := T.next hb
  replace Z := Z.next hb
  clear hb
  obtain ⟨t0, t1, t2, t3, t4, t5, t6, t7, t8, t9, tl⟩ := id T
  go_wp2_with fail
  refine (HL.out _).mono ?_
  rintro e w2 ⟨rfl, hb⟩
  clear t0 t1 t2 t3 t4 t5 t6 t7 t8 t9 tl
  replace B := thn B hb
  replace T := T.next hb
  replace Z := Z.next hb
  clear hb
  obtain ⟨t0, t1, t2, t3, t4, t5, t6, t7, t8, t9, tl⟩ := id T
  go_wp2_with (go_at_call 45; refine (HAb.out _).mono ?_; rintro e w' ⟨rfl, rfl⟩)
  refine (HM.out _).mono ?_
  rintro e w3 ⟨rfl, hd⟩
  clear t0 t1 t2 t3 t4 t5 t6 t7 t8 t9 tl
  replace B := thn B (hd.below _)
  replace T := T.next (hd.below _)
  replace Z := Z.next (hd.below _)
  clear hd
  go_wp2_with fail
  have L0 : ∀ w', Below w3.heap.size w3 w' → w'.cell? ⟨w.heap.size, 0, none⟩ = some (.int .i64 x) := fun _ h => (T.next h).c0
  have L1 : ∀ w', Below w3.heap.size w3 w' → w'.cell? ⟨w.heap.size, 1, none⟩ = some (.int .i64 y) := fun _ h => (T.next h).c1
  have L2 : ∀ w', Below w3.heap.size w3 w' → w'.cell? ⟨w.heap.size, 2, none⟩ = some (.int .i64 r) := fun _ h => (T.next h).c2
  have L3 : ∀ w', Below w3.heap.size w3 w' → w'.cell? ⟨w.heap.size, 3, none⟩ = some (.int .i64 f) := fun _ h => (T.next h).c3
  have L4 : ∀ w', Below w3.heap.size w3 w' → w'.cell? ⟨w.heap.size, 4, none⟩ = some (.int .i64 (-64800000)) := fun _ h => (T.next h).c4
  have HB := Lib.hid (And.intro B (And.intro T Z))
  clear B T Z
  go_region_held3 (fun w' => Below w3.heap.size w3 w') (first | with_reducible exact bdrew _ | with_reducible exact hS1)
    (first | (go_at_call 48; with_reducible refine (HS1.out _).mono ?_; rintro e x1 ⟨rfl, hb1⟩; have hS1 := thn (bdrew w3) hb1) | (go_at_call 47; with_reducible refine (HT1.out _).mono ?_; rintro e w' ⟨rfl, rfl⟩))
  clear L0 L1 L2 L3 L4
  obtain ⟨B, T, Z⟩ := HB.out
  clear HB
  replace B := thn B hS1
  replace T := T.next hS1
  replace Z := Z.next hS1
  clear hS1 hb1
  obtain ⟨t0, t1, t2, t3, t4, t5, t6, t7, t8, t9, tl⟩ := id T
  go_wp2_with fail
  refine (HR.out _).mono ?_
  rintro e w4 ⟨rfl, hb⟩
  clear t0 t1 t2 t3 t4 t5 t6 t7 t8 t9 tl
  have hqz : w4.heap.size ≠ w.heap.size + 1 := by have := (Z.next hb).lt; omega
  have Q := c2_new w4 (.int .i64 p) (.int .i64 q) 30
  replace B := alc (thn B hb) (.cells #[.int .i64 p, .int .i64 q] 30)
  replace T := (T.next hb).alc (.cells #[.int .i64 p, .int .i64 q] 30)
  replace Z := (Z.next hb).alc (.cells #[.int .i64 p, .int .i64 q] 30)
  clear hb
  go_upto_region 12 with fail
  generalize w4.alloc (.cells #[.int .i64 p, .int .i64 q] 30) = v at *
  generalize w4.heap.size = bq at *
  have htz : w.heap.size ≠ w.heap.size + 1 := by omega
  have L0 : ∀ w', Bx (w.heap.size + 1) v w' → w'.cell? ⟨w.heap.size, 0, none⟩ = some (.int .i64 x) := fun _ h => (T.bx h htz).c0
  have L1 : ∀ w', Bx (w.heap.size + 1) v w' → w'.cell? ⟨w.heap.size, 1, none⟩ = some (.int .i64 y) := fun _ h => (T.bx h htz).c1
  have L2 : ∀ w', Bx (w.heap.size + 1) v w' → w'.cell? ⟨w.heap.size, 2, none⟩ = some (.int .i64 r) := fun _ h => (T.bx h htz).c2
  have L3 : ∀ w', Bx (w.heap.size + 1) v w' → w'.cell? ⟨w.heap.size, 3, none⟩ = some (.int .i64 f) := fun _ h => (T.bx h htz).c3
  have L4 : ∀ w', Bx (w.heap.size + 1) v w' → w'.cell? ⟨w.heap.size, 4, none⟩ = some (.int .i64 (-64800000)) := fun _ h => (T.bx h htz).c4
  have L5 : ∀ w', Bx (w.heap.size + 1) v w' → w'.cell? ⟨bq, 0, none⟩ = some (.int .i64 p) := fun _ h => (Q.bx h hqz).c0
  have L6 : ∀ w', Bx (w.heap.size + 1) v w' → w'.cell? ⟨bq, 1, none⟩ = some (.int .i64 q) := fun _ h => (Q.bx h hqz).c1
  clear T Q
  go_region_held3 (fun w' => Bx (w.heap.size + 1) v w') (first | with_reducible exact Bx.of (bdrew _) | with_reducible exact hS2 | with_reducible exact Bx.put (Bx.put hS2 rfl _) rfl _)
    (first | (go_at_call 48; with_reducible refine (HS2.out _).mono ?_; rintro e x2 ⟨rfl, hb2⟩; have hQ2 := thn (bdrew v) hb2; have hS2 : Bx (w.heap.size + 1) v x2 := Bx.of hQ2; have Z2 := Z.next hQ2; have B2 := thn B hQ2; have q0 := Z2.c0; have q1 := Z2.c1; have r0 := Z2.f0; have r1 := Z2.f1) | (go_at_call 47; with_reducible refine (HT2.out _).mono ?_; rintro e w' ⟨rfl, rfl⟩))
  clear L0 L1 L2 L3 L4 L5 L6 q0 q1 r0 r1
  go_wp2_with fail
  have Z5 := Z2.put (.int .i64 p) (.int .i64 q)
  have B5 := below_put2 B2 (b := w.heap.size + 1) (Nat.le_succ _) (.int .i64 p) (.int .i64 q)
  obtain ⟨z0, z1, z2, z3, zl⟩ := Z5
  exact bodyPost_ret (v := .tuple #[ptV p q, .int .i64 ((g + (-32400000)) % 129600000), .int .i64 0]) (by simp [results, Try.results31, go_sem, z0, z1]) rfl ⟨rfl, B5⟩
set_option maxRecDepth 4000 in
set_option maxHeartbeats 16000000 in
theorem tat_n02 (x y r f g N p q : Int) (w : World) (h : avd x y r f (-64800000) = true) (hN : qnear (r * 64800000) 20626481 = N) (n0 : 3 ≤ N) (n1 : N ≤ 6283186) (hg : (f + (0)) % 129600000 = g) (hX : rayv x y g r = (0, 0, 2)) :
    Calls Try.prog 31 #[arcV x y r f (-64800000), .int .i64 0] w fun e w' => e = .returned (.tuple #[ptV 0 0, .int .i64 0, .int .i64 2]) ∧ Below w.heap.size w w' := by
  have HL := Lib.hid (fun w => alen_b x y r f (-64800000) w h)
  rw [show iabs (-64800000) = 64800000 by decide, hN] at HL
  have HR := Lib.hid (fun w => ray_any x y g r w)
  rw [hX] at HR
  have HM := Lib.hid (fun w => mdr2_any 0 64800000 N w (by omega) (by omega) (by omega) (by omega) (by omega) (by omega))
  rw [qn_0 (by omega)] at HM
  have HS1 := Lib.hid (fun w => side_any x y r f (-64800000) 0 w (by omega))
  have HS2 := Lib.hid (fun w => side_any x y r f (-64800000) 32400000 w (by omega))
  rw [show (if (-64800000 : Int) < 0 then -0 else 0) = (0 : Int) by decide] at HS1
  rw [show (if (-64800000 : Int) < 0 then -32400000 else 32400000) = (-32400000 : Int) by decide] at HS2
  have HT1 := Lib.hid (fun w => turn_any f (0) w)
  rw [hg] at HT1
  have HAb := Lib.hid (fun w => abs_any (-64800000) w (by omega) (by omega))
  rw [show iabs (-64800000) = 64800000 by decide] at HAb
  have HT2 := Lib.hid (fun w => turn_any g (-32400000) w)
  have HV := Lib.hid h
  clear h hg hX hN

  have n2 : ¬ N < 0 := by omega
  have n3 : ¬ 0 > N := by omega
  have n4 : N > 0 := by omega
  have n5 : ¬ N > N := by omega
  have n6 : 0 < N := by omega
  go_enter Try.func31, Try.ntmps31
  go_wp2_with fail
  have B := below_alloc2 w (.cells #[.int .i64 x, .int .i64 y, .int .i64 r, .int .i64 f, .int .i64 (-64800000)] 41) (.cells #[.int .i64 0, .int .i64 0] 30)
  have T := (c5_new w (.int .i64 x) (.int .i64 y) (.int .i64 r) (.int .i64 f) (.int .i64 (-64800000)) 41).alc (.cells #[.int .i64 0, .int .i64 0] 30)
  have Z := c2_new (w.alloc (.cells #[.int .i64 x, .int .i64 y, .int .i64 r, .int .i64 f, .int .i64 (-64800000)] 41)) (.int .i64 0) (.int .i64 0) 30
  rw [show (w.alloc (.cells #[.int .i64 x, .int .i64 y, .int .i64 r, .int .i64 f, .int .i64 (-64800000)] 41)).heap.size = w.heap.size + 1 by simp] at Z
  generalize (w.alloc (.cells #[.int .i64 x, .int .i64 y, .int .i64 r, .int .i64 f, .int .i64 (-64800000)] 41)).alloc (.cells #[.int .i64 0, .int .i64 0] 30) = w0 at *
  refine (avalid_any _ _ _ _ _ _).mono ?_
  rintro e w1 ⟨rfl, hb⟩
  rw [HV.out]
  replace B := thn B hb
  replace T := T.next hb
  replace Z := Z.next hb
  clear hb
  obtain ⟨t0, t1, t2, t3, t4, t5, t6, t7, t8, t9, tl⟩ := id T
  go_wp2_with fail
  refine (HL.out _).mono ?_
  rintro e w2 ⟨rfl, hb⟩
  clear t0 t1 t2 t3 t4 t5 t6 t7 t8 t9 tl
  replace B := thn B hb
  replace T := T.next hb
  replace Z := Z.next hb
  clear hb
  obtain ⟨t0, t1, t2, t3, t4, t5, t6, t7, t8, t9, tl⟩ := id T
  go_wp2_with (go_at_call 45; refine (HAb.out _).mono ?_; rintro e w' ⟨rfl, rfl⟩)
  refine (HM.out _).mono ?_
  rintro e w3 ⟨rfl, hd⟩
  clear t0 t1 t2 t3 t4 t5 t6 t7 t8 t9 tl
  replace B := thn B (hd.below _)
  replace T := T.next (hd.below _)
  replace Z := Z.next (hd.below _)
  clear hd
  go_wp2_with fail
  have L0 : ∀ w', Below w3.heap.size w3 w' → w'.cell? ⟨w.heap.size, 0, none⟩ = some (.int .i64 x) := fun _ h => (T.next h).c0
  have L1 : ∀ w', Below w3.heap.size w3 w' → w'.cell? ⟨w.heap.size, 1, none⟩ = some (.int .i64 y) := fun _ h => (T.next h).c1
  have L2 : ∀ w', Below w3.heap.size w3 w' → w'.cell? ⟨w.heap.size, 2, none⟩ = some (.int .i64 r) := fun _ h => (T.next h).c2
  have L3 : ∀ w', Below w3.heap.size w3 w' → w'.cell? ⟨w.heap.size, 3, none⟩ = some (.int .i64 f) := fun _ h => (T.next h).c3
  have L4 : ∀ w', Below w3.heap.size w3 w' → w'.cell? ⟨w.heap.size, 4, none⟩ = some (.int .i64 (-64800000)) := fun _ h => (T.next h).c4
  have HB := Lib.hid (And.intro B (And.intro T Z))
  clear B T Z
  go_region_held3 (fun w' => Below w3.heap.size w3 w') (first | with_reducible exact bdrew _ | with_reducible exact hS1)
    (first | (go_at_call 48; with_reducible refine (HS1.out _).mono ?_; rintro e x1 ⟨rfl, hb1⟩; have hS1 := thn (bdrew w3) hb1) | (go_at_call 47; with_reducible refine (HT1.out _).mono ?_; rintro e w' ⟨rfl, rfl⟩))
  clear L0 L1 L2 L3 L4
  obtain ⟨B, T, Z⟩ := HB.out
  clear HB
  replace B := thn B hS1
  replace T := T.next hS1
  replace Z := Z.next hS1
  clear hS1 hb1
  obtain ⟨t0, t1, t2, t3, t4, t5, t6, t7, t8, t9, tl⟩ := id T
  go_wp2_with fail
  refine (HR.out _).mono ?_
  rintro e w4 ⟨rfl, hb⟩
  clear t0 t1 t2 t3 t4 t5 t6 t7 t8 t9 tl
  have hqz : w4.heap.size ≠ w.heap.size + 1 := by have := (Z.next hb).lt; omega
  have Q := c2_new w4 (.int .i64 0) (.int .i64 0) 30
  replace B := alc (thn B hb) (.cells #[.int .i64 0, .int .i64 0] 30)
  replace T := (T.next hb).alc (.cells #[.int .i64 0, .int .i64 0] 30)
  replace Z := (Z.next hb).alc (.cells #[.int .i64 0, .int .i64 0] 30)
  clear hb
  obtain ⟨z0, z1, z2, z3, zl⟩ := id Z
  go_wp2_with fail
  clear z0 z1 z2 z3 zl
  have Z5 := Z.put (.int .i64 0) (.int .i64 0)
  have B5 := below_put2 B (b := w.heap.size + 1) (Nat.le_succ _) (.int .i64 0) (.int .i64 0)
  obtain ⟨z0, z1, z2, z3, zl⟩ := Z5
  exact bodyPost_ret (v := .tuple #[ptV 0 0, .int .i64 0, .int .i64 2]) (by simp [results, Try.results31, go_sem, z0, z1]) rfl ⟨rfl, B5⟩
set_option maxRecDepth 4000 in
set_option maxHeartbeats 16000000 in
theorem tat_n10 (x y r f g N p q : Int) (w : World) (h : avd x y r f (-64800000) = true) (hN : qnear (r * 64800000) 20626481 = N) (n0 : 3 ≤ N) (n1 : N ≤ 6283186) (hg : (f + (-64800000)) % 129600000 = g) (hX : rayv x y g r = (p, q, 0)) :
    Calls Try.prog 31 #[arcV x y r f (-64800000), .int .i64 N] w fun e w' => e = .returned (.tuple #[ptV p q, .int .i64 ((g + (-32400000)) % 129600000), .int .i64 0]) ∧ Below w.heap.size w w' := by
  have HL := Lib.hid (fun w => alen_b x y r f (-64800000) w h)
  rw [show iabs (-64800000) = 64800000 by decide, hN] at HL
  have HR := Lib.hid (fun w => ray_any x y g r w)
  rw [hX] at HR
  have HM := Lib.hid (fun w => mdr2_any N 64800000 N w (by omega) (by omega) (by omega) (by omega) (by omega) (by omega))
  rw [qn_self (by omega)] at HM
  have HS1 := Lib.hid (fun w => side_any x y r f (-64800000) 64800000 w (by omega))
  have HS2 := Lib.hid (fun w => side_any x y r f (-64800000) 32400000 w (by omega))
  rw [show (if (-64800000 : Int) < 0 then -64800000 else 64800000) = (-64800000 : Int) by decide] at HS1
  rw [show (if (-64800000 : Int) < 0 then -32400000 else 32400000) = (-32400000 : Int) by decide] at HS2
  have HT1 := Lib.hid (fun w => turn_any f (-64800000) w)
  rw [hg] at HT1
  have HAb := Lib.hid (fun w => abs_any (-64800000) w (by omega) (by omega))
  rw [show iabs (-64800000) = 64800000 by decide] at HAb
  have HT2 := Lib.hid (fun w => turn_any g (-32400000) w)
  have HV := Lib.hid h
  clear h hg hX hN

  have n2 : ¬ N < 0 := by omega
  have n3 : ¬ 0 > N := by omega
  have n4 : N > 0 := by omega
  have n5 : ¬ N > N := by omega
  have n6 : 0 < N := by omega
  go_enter Try.func31, Try.ntmps31
  go_wp2_with fail
  have B := below_alloc2 w (.cells #[.int .i64 x, .int .i64 y, .int .i64 r, .int .i64 f, .int .i64 (-64800000)] 41) (.cells #[.int .i64 0, .int .i64 0] 30)
  have T := (c5_new w (.int .i64 x) (.int .i64 y) (.int .i64 r) (.int .i64 f) (.int .i64 (-64800000)) 41).alc (.cells #[.int .i64 0, .int .i64 0] 30)
  have Z := c2_new (w.alloc (.cells #[.int .i64 x, .int .i64 y, .int .i64 r, .int .i64 f, .int .i64 (-64800000)] 41)) (.int .i64 0) (.int .i64 0) 30
  rw [show (w.alloc (.cells #[.int .i64 x, .int .i64 y, .int .i64 r, .int .i64 f, .int .i64 (-64800000)] 41)).heap.size = w.heap.size + 1 by simp] at Z
  generalize (w.alloc (.cells #[.int .i64 x, .int .i64 y, .int .i64 r, .int .i64 f, .int .i64 (-64800000)] 41)).alloc (.cells #[.int .i64 0, .int .i64 0] 30) = w0 at *
  refine (avalid_any _ _ _ _ _ _).mono ?_
  rintro e w1 ⟨rfl, hb⟩
  rw [HV.out]
  replace B := thn B hb
  replace T := T.next hb
  replace Z := Z.next hb
  clear hb
  obtain ⟨t0, t1, t2, t3, t4, t5, t6, t7, t8, t9, tl⟩ := id T
  go_wp2_with fail
  refine (HL.out _).mono ?_
  rintro e w2 ⟨rfl, hb⟩
  clear t0 t1 t2 t3 t4 t5 t6 t7 t8 t9 tl
  replace B := thn B hb
  replace T := T.next hb
  replace Z := Z.next hb
  clear hb
  obtain ⟨t0, t1, t2, t3, t4, t5, t6, t7, t8, t9, tl⟩ := id T
  go_wp2_with (go_at_call 45; refine (HAb.out _).mono ?_; rintro e w' ⟨rfl, rfl⟩)
  refine (HM.out _).mono ?_
  rintro e w3 ⟨rfl, hd⟩
  clear t0 t1 t2 t3 t4 t5 t6 t7 t8 t9 tl
  replace B := thn B (hd.below _)
  replace T := T.next (hd.below _)
  replace Z := Z.next (hd.below _)
  clear hd
  go_wp2_with fail
  have L0 : ∀ w', Below w3.heap.size w3 w' → w'.cell? ⟨w.heap.size, 0, none⟩ = some (.int .i64 x) := fun _ h => (T.next h).c0
  have L1 : ∀ w', Below w3.heap.size w3 w' → w'.cell? ⟨w.heap.size, 1, none⟩ = some (.int .i64 y) := fun _ h => (T.next h).c1
  have L2 : ∀ w', Below w3.heap.size w3 w' → w'.cell? ⟨w.heap.size, 2, none⟩ = some (.int .i64 r) := fun _ h => (T.next h).c2
  have L3 : ∀ w', Below w3.heap.size w3 w' → w'.cell? ⟨w.heap.size, 3, none⟩ = some (.int .i64 f) := fun _ h => (T.next h).c3
  have L4 : ∀ w', Below w3.heap.size w3 w' → w'.cell? ⟨w.heap.size, 4, none⟩ = some (.int .i64 (-64800000)) := fun _ h => (T.next h).c4
  have HB := Lib.hid (And.intro B (And.intro T Z))
  clear B T Z
  go_region_held3 (fun w' => Below w3.heap.size w3 w') (first | with_reducible exact bdrew _ | with_reducible exact hS1)
    (first | (go_at_call 48; with_reducible refine (HS1.out _).mono ?_; rintro e x1 ⟨rfl, hb1⟩; have hS1 := thn (bdrew w3) hb1) | (go_at_call 47; with_reducible refine (HT1.out _).mono ?_; rintro e w' ⟨rfl, rfl⟩))
  clear L0 L1 L2 L3 L4
  obtain ⟨B, T, Z⟩ := HB.out
  clear HB
  replace B := thn B hS1
  replace T := T.next hS1
  replace Z := Z.next hS1
  clear hS1 hb1
  obtain ⟨t0, t1, t2, t3, t4, t5, t6, t7, t8, t9, tl⟩ := id T
  go_wp2_with fail
  refine (HR.out _).mono ?_
  rintro e w4 ⟨rfl, hb⟩
  clear t0 t1 t2 t3 t4 t5 t6 t7 t8 t9 tl
  have hqz : w4.heap.size ≠ w.heap.size + 1 := by have := (Z.next hb).lt; omega
  have Q := c2_new w4 (.int .i64 p) (.int .i64 q) 30
  replace B := alc (thn B hb) (.cells #[.int .i64 p, .int .i64 q] 30)
  replace T := (T.next hb).alc (.cells #[.int .i64 p, .int .i64 q] 30)
  replace Z := (Z.next hb).alc (.cells #[.int .i64 p, .int .i64 q] 30)
  clear hb
  go_upto_region 12 with fail
  generalize w4.alloc (.cells #[.int .i64 p, .int .i64 q] 30) = v at *
  generalize w4.heap.size = bq at *
  have htz : w.heap.size ≠ w.heap.size + 1 := by omega
  have L0 : ∀ w', Bx (w.heap.size + 1) v w' → w'.cell? ⟨w.heap.size, 0, none⟩ = some (.int .i64 x) := fun _ h => (T.bx h htz).c0
  have L1 : ∀ w', Bx (w.heap.size + 1) v w' → w'.cell? ⟨w.heap.size, 1, none⟩ = some (.int .i64 y) := fun _ h => (T.bx h htz).c1
  have L2 : ∀ w', Bx (w.heap.size + 1) v w' → w'.cell? ⟨w.heap.size, 2, none⟩ = some (.int .i64 r) := fun _ h => (T.bx h htz).c2
  have L3 : ∀ w', Bx (w.heap.size + 1) v w' → w'.cell? ⟨w.heap.size, 3, none⟩ = some (.int .i64 f) := fun _ h => (T.bx h htz).c3
  have L4 : ∀ w', Bx (w.heap.size + 1) v w' → w'.cell? ⟨w.heap.size, 4, none⟩ = some (.int .i64 (-64800000)) := fun _ h => (T.bx h htz).c4
  have L5 : ∀ w', Bx (w.heap.size + 1) v w' → w'.cell? ⟨bq, 0, none⟩ = some (.int .i64 p) := fun _ h => (Q.bx h hqz).c0
  have L6 : ∀ w', Bx (w.heap.size + 1) v w' → w'.cell? ⟨bq, 1, none⟩ = some (.int .i64 q) := fun _ h => (Q.bx h hqz).c1
  clear T Q
  go_region_held3 (fun w' => Bx (w.heap.size + 1) v w') (first | with_reducible exact Bx.of (bdrew _) | with_reducible exact hS2 | with_reducible exact Bx.put (Bx.put hS2 rfl _) rfl _)
    (first | (go_at_call 48; with_reducible refine (HS2.out _).mono ?_; rintro e x2 ⟨rfl, hb2⟩; have hQ2 := thn (bdrew v) hb2; have hS2 : Bx (w.heap.size + 1) v x2 := Bx.of hQ2; have Z2 := Z.next hQ2; have B2 := thn B hQ2; have q0 := Z2.c0; have q1 := Z2.c1; have r0 := Z2.f0; have r1 := Z2.f1) | (go_at_call 47; with_reducible refine (HT2.out _).mono ?_; rintro e w' ⟨rfl, rfl⟩))
  clear L0 L1 L2 L3 L4 L5 L6 q0 q1 r0 r1
  go_wp2_with fail
  have Z5 := Z2.put (.int .i64 p) (.int .i64 q)
  have B5 := below_put2 B2 (b := w.heap.size + 1) (Nat.le_succ _) (.int .i64 p) (.int .i64 q)
  obtain ⟨z0, z1, z2, z3, zl⟩ := Z5
  exact bodyPost_ret (v := .tuple #[ptV p q, .int .i64 ((g + (-32400000)) % 129600000), .int .i64 0]) (by simp [results, Try.results31, go_sem, z0, z1]) rfl ⟨rfl, B5⟩
set_option maxRecDepth 4000 in
set_option maxHeartbeats 16000000 in
theorem tat_n12 (x y r f g N p q : Int) (w : World) (h : avd x y r f (-64800000) = true) (hN : qnear (r * 64800000) 20626481 = N) (n0 : 3 ≤ N) (n1 : N ≤ 6283186) (hg : (f + (-64800000)) % 129600000 = g) (hX : rayv x y g r = (0, 0, 2)) :
    Calls Try.prog 31 #[arcV x y r f (-64800000), .int .i64 N] w fun e w' => e = .returned (.tuple #[ptV 0 0, .int .i64 0, .int .i64 2]) ∧ Below w.heap.size w w' := by
  have HL := Lib.hid (fun w => alen_b x y r f (-64800000) w h)
  rw [show iabs (-64800000) = 64800000 by decide, hN] at HL
  have HR := Lib.hid (fun w => ray_any x y g r w)
  rw [hX] at HR
  have HM := Lib.hid (fun w => mdr2_any N 64800000 N w (by omega) (by omega) (by omega) (by omega) (by omega) (by omega))
  rw [qn_self (by omega)] at HM
  have HS1 := Lib.hid (fun w => side_any x y r f (-64800000) 64800000 w (by omega))
  have HS2 := Lib.hid (fun w => side_any x y r f (-64800000) 32400000 w (by omega))
  rw [show (if (-64800000 : Int) < 0 then -64800000 else 64800000) = (-64800000 : Int) by decide] at HS1
  rw [show (if (-64800000 : Int) < 0 then -32400000 else 32400000) = (-32400000 : Int) by decide] at HS2
  have HT1 := Lib.hid (fun w => turn_any f (-64800000) w)
  rw [hg] at HT1
  have HAb := Lib.hid (fun w => abs_any (-64800000) w (by omega) (by omega))
  rw [show iabs (-64800000) = 64800000 by decide] at HAb
  have HT2 := Lib.hid (fun w => turn_any g (-32400000) w)
  have HV := Lib.hid h
  clear h hg hX hN

  have n2 : ¬ N < 0 := by omega
  have n3 : ¬ 0 > N := by omega
  have n4 : N > 0 := by omega
  have n5 : ¬ N > N := by omega
  have n6 : 0 < N := by omega
  go_enter Try.func31, Try.ntmps31
  go_wp2_with fail
  have B := below_alloc2 w (.cells #[.int .i64 x, .int .i64 y, .int .i64 r, .int .i64 f, .int .i64 (-64800000)] 41) (.cells #[.int .i64 0, .int .i64 0] 30)
  have T := (c5_new w (.int .i64 x) (.int .i64 y) (.int .i64 r) (.int .i64 f) (.int .i64 (-64800000)) 41).alc (.cells #[.int .i64 0, .int .i64 0] 30)
  have Z := c2_new (w.alloc (.cells #[.int .i64 x, .int .i64 y, .int .i64 r, .int .i64 f, .int .i64 (-64800000)] 41)) (.int .i64 0) (.int .i64 0) 30
  rw [show (w.alloc (.cells #[.int .i64 x, .int .i64 y, .int .i64 r, .int .i64 f, .int .i64 (-64800000)] 41)).heap.size = w.heap.size + 1 by simp] at Z
  generalize (w.alloc (.cells #[.int .i64 x, .int .i64 y, .int .i64 r, .int .i64 f, .int .i64 (-64800000)] 41)).alloc (.cells #[.int .i64 0, .int .i64 0] 30) = w0 at *
  refine (avalid_any _ _ _ _ _ _).mono ?_
  rintro e w1 ⟨rfl, hb⟩
  rw [HV.out]
  replace B := thn B hb
  replace T := T.next hb
  replace Z := Z.next hb
  clear hb
  obtain ⟨t0, t1, t2, t3, t4, t5, t6, t7, t8, t9, tl⟩ := id T
  go_wp2_with fail
  refine (HL.out _).mono ?_
  rintro e w2 ⟨rfl, hb⟩
  clear t0 t1 t2 t3 t4 t5 t6 t7 t8 t9 tl
  replace B := thn B hb
  replace T := T.next hb
  replace Z := Z.next hb
  clear hb
  obtain ⟨t0, t1, t2, t3, t4, t5, t6, t7, t8, t9, tl⟩ := id T
  go_wp2_with (go_at_call 45; refine (HAb.out _).mono ?_; rintro e w' ⟨rfl, rfl⟩)
  refine (HM.out _).mono ?_
  rintro e w3 ⟨rfl, hd⟩
  clear t0 t1 t2 t3 t4 t5 t6 t7 t8 t9 tl
  replace B := thn B (hd.below _)
  replace T := T.next (hd.below _)
  replace Z := Z.next (hd.below _)
  clear hd
  go_wp2_with fail
  have L0 : ∀ w', Below w3.heap.size w3 w' → w'.cell? ⟨w.heap.size, 0, none⟩ = some (.int .i64 x) := fun _ h => (T.next h).c0
  have L1 : ∀ w', Below w3.heap.size w3 w' → w'.cell? ⟨w.heap.size, 1, none⟩ = some (.int .i64 y) := fun _ h => (T.next h).c1
  have L2 : ∀ w', Below w3.heap.size w3 w' → w'.cell? ⟨w.heap.size, 2, none⟩ = some (.int .i64 r) := fun _ h => (T.next h).c2
  have L3 : ∀ w', Below w3.heap.size w3 w' → w'.cell? ⟨w.heap.size, 3, none⟩ = some (.int .i64 f) := fun _ h => (T.next h).c3
  have L4 : ∀ w', Below w3.heap.size w3 w' → w'.cell? ⟨w.heap.size, 4, none⟩ = some (.int .i64 (-64800000)) := fun _ h => (T.next h).c4
  have HB := Lib.hid (And.intro B (And.intro T Z))
  clear B T Z
  go_region_held3 (fun w' => Below w3.heap.size w3 w') (first | with_reducible exact bdrew _ | with_reducible exact hS1)
    (first | (go_at_call 48; with_reducible refine (HS1.out _).mono ?_; rintro e x1 ⟨rfl, hb1⟩; have hS1 := thn (bdrew w3) hb1) | (go_at_call 47; with_reducible refine (HT1.out _).mono ?_; rintro e w' ⟨rfl, rfl⟩))
  clear L0 L1 L2 L3 L4
  obtain ⟨B, T, Z⟩ := HB.out
  clear HB
  replace B := thn B hS1
  replace T := T.next hS1
  replace Z := Z.next hS1
  clear hS1 hb1
  obtain ⟨t0, t1, t2, t3, t4, t5, t6, t7, t8, t9, tl⟩ := id T
  go_wp2_with fail
  refine (HR.out _).mono ?_
  rintro e w4 ⟨rfl, hb⟩
  clear t0 t1 t2 t3 t4 t5 t6 t7 t8 t9 tl
  have hqz : w4.heap.size ≠ w.heap.size + 1 := by have := (Z.next hb).lt; omega
  have Q := c2_new w4 (.int .i64 0) (.int .i64 0) 30
  replace B := alc (thn B hb) (.cells #[.int .i64 0, .int .i64 0] 30)
  replace T := (T.next hb).alc (.cells #[.int .i64 0, .int .i64 0] 30)
  replace Z := (Z.next hb).alc (.cells #[.int .i64 0, .int .i64 0] 30)
  clear hb
  obtain ⟨z0, z1, z2, z3, zl⟩ := id Z
  go_wp2_with fail
  clear z0 z1 z2 z3 zl
  have Z5 := Z.put (.int .i64 0) (.int .i64 0)
  have B5 := below_put2 B (b := w.heap.size + 1) (Nat.le_succ _) (.int .i64 0) (.int .i64 0)
  obtain ⟨z0, z1, z2, z3, zl⟩ := Z5
  exact bodyPost_ret (v := .tuple #[ptV 0 0, .int .i64 0, .int .i64 2]) (by simp [results, Try.results31, go_sem, z0, z1]) rfl ⟨rfl, B5⟩
end Go.Proofs.Ytgabdnabcpdinaa
