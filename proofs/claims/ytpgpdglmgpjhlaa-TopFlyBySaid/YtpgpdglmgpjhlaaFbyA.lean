/- turn.side and turn.At for all arcs. -/
import Derived.Test.YtpgpdglmgpjhlaaLinB
namespace Go.Proofs.Ytpgpdglmgpjhlaa
open Go.RowKit Go.Joins Fdk
set_option linter.unusedVariables false
/-- all blocks but one are as they were, and the new ones. -/
structure Bx (bk : Nat) (w w' : World) : Prop where
  size : w.heap.size ≤ w'.heap.size
  block : ∀ k, k < w.heap.size → k ≠ bk → w'.heap[k]? = w.heap[k]?
theorem Bx.of {bk : Nat} {w v : World} (h : Below w.heap.size w v) : Bx bk w v := ⟨h.size, fun k hk _ => h.block k hk⟩
theorem Bx.thn {bk : Nat} {w v u : World} (h : Bx bk w v) (k : Below v.heap.size v u) : Bx bk w u :=
  ⟨Nat.le_trans h.size k.size, fun j hj hb => (k.block j (Nat.lt_of_lt_of_le hj h.size)).trans (h.block j hj hb)⟩
theorem Bx.put {bk : Nat} {w v : World} (h : Bx bk w v) {p : Addr} (hp : p.block = bk) (x : Value) : Bx bk w (v.setCell p x) :=
  ⟨by have := h.size; simpa using this, fun k hk hb => (Below.heap_setCell v p x k (by rw [hp]; exact hb)).trans (h.block k hk hb)⟩
theorem C2.bx {bk b : Nat} {w v : World} {x y : Value} (k : C2 w b x y) (h : Bx bk w v) (hb : b ≠ bk) : C2 v b x y :=
  have e := h.block b k.lt hb
  ⟨(World.cell?_of_block (w := w) e).trans k.c0, (World.cell?_of_block (w := w) e).trans k.c1, (World.frozen?_of_block (w := w) e).trans k.f0, (World.frozen?_of_block (w := w) e).trans k.f1, Nat.lt_of_lt_of_le k.lt h.size⟩
theorem C5.bx {bk b : Nat} {w v : World} {x0 x1 x2 x3 x4 : Value} (k : C5 w b x0 x1 x2 x3 x4) (h : Bx bk w v) (hb : b ≠ bk) : C5 v b x0 x1 x2 x3 x4 :=
  have e := h.block b k.lt hb
  ⟨(World.cell?_of_block (w := w) e).trans k.c0, (World.cell?_of_block (w := w) e).trans k.c1, (World.cell?_of_block (w := w) e).trans k.c2, (World.cell?_of_block (w := w) e).trans k.c3, (World.cell?_of_block (w := w) e).trans k.c4, (World.frozen?_of_block (w := w) e).trans k.f0, (World.frozen?_of_block (w := w) e).trans k.f1, (World.frozen?_of_block (w := w) e).trans k.f2, (World.frozen?_of_block (w := w) e).trans k.f3, (World.frozen?_of_block (w := w) e).trans k.f4, Nat.lt_of_lt_of_le k.lt h.size⟩
theorem side_any (x y r f s v : Int) (w : World) (hv : -129600000 ≤ v ∧ v ≤ 129600000) :
    Calls Try.prog 20 #[arcV x y r f s, .int .i64 v] w fun e w' => e = .returned (.int .i64 (if s < 0 then -v else v)) ∧ Below w.heap.size w w' := by
  have e0 : IntKind.i64.wrap (-v) = -v := IntWalk.i64_in _ (by omega)
  have T := c5_new w (.int .i64 x) (.int .i64 y) (.int .i64 r) (.int .i64 f) (.int .i64 s) 30
  obtain ⟨t0, t1, t2, t3, t4, t5, t6, t7, t8, t9, tl⟩ := T
  by_cases h : s < 0
  · have HI := Lib.hid (if_pos h : (if s < 0 then -v else v) = -v)
    go_enter Try.func20, Try.ntmps20
    go_wp2
    go_ret
    exact ⟨by first | rfl | (rw [HI.out]; rfl), below_alloc1 w _⟩
  · have HI := Lib.hid (if_neg h : (if s < 0 then -v else v) = v)
    go_enter Try.func20, Try.ntmps20
    go_wp2
    go_ret
    exact ⟨by first | rfl | (rw [HI.out]; rfl), below_alloc1 w _⟩
/-- b parts of c times a, whole. -/
theorem mdr2_any (a b c : Int) (w : World) (a0 : 0 ≤ a) (a1 : a ≤ 8589934592) (b0 : 0 ≤ b) (b1 : b ≤ 134217728) (c0 : 1 ≤ c) (c1 : c ≤ 8589934592) :
    Calls Try.prog 30 #[.int .i64 a, .int .i64 b, .int .i64 c] w fun e w' => e = TwoI (qnear (a * b) c) 0 ∧ Drew w w' := by
  have hq : Hid (Calls Try.prog 35 #[.int .i64 a, .int .i64 b, .int .i64 c, .int .u8 2] w fun e w' => e = TwoI (qnear (a * b) c) 0 ∧ Drew w w') := by
    have i1 : iabs a = a := by unfold iabs; rw [if_neg (by omega)]
    have i2 : iabs b = b := by unfold iabs; rw [if_neg (by omega)]
    have k0 : 0 ≤ a * b := Int.mul_nonneg a0 b0
    have k1 : a * b / c ≤ a * b := Int.ediv_le_self _ k0
    have k2 := pb (p := a) (q := b) (A := 8589934592) (B := 134217728) 1152921504606846976 (by omega) (by omega) (by omega) (by decide)
    exact Lib.hid (scale2_pp a b c w (by omega) (by omega) (by omega) (by omega) c0 (by omega) (by rw [i1, i2]; omega) (by rw [i1, i2]; omega) (lt_dec.1 (by omega)) (lt_dec.1 (by omega)) (by rw [i1, i2]))
  go_enter Try.func30, Try.ntmps30
  go_wp2_with fail
  refine hq.out.mono ?_
  rintro e w' ⟨rfl, hd⟩
  have HD := Lib.hid hd
  clear hd
  go_wp2
  go_ret2
  exact ⟨rfl, HD.out⟩

set_option maxRecDepth 4000 in
set_option maxHeartbeats 16000000 in
theorem tat_00 (x y r f s g N v ww sv qq p q : Int) (w : World) (h : avd x y r f s = true) (hN : qnear (r * iabs s) 20626481 = N) (n0 : 0 < N) (n1 : N ≤ 100000000) (v0 : 0 ≤ v) (v1 : v ≤ N) (hw : qnear (v * iabs s) N = ww) (w0 : 0 ≤ ww) (w1 : ww ≤ 129600000) (hsv : (if s < 0 then -ww else ww) = sv) (hqq : (if s < 0 then -32400000 else 32400000) = qq) (hg : (f + sv) % 129600000 = g) (hX : rayv x y g r = (p, q, 0)) :
    Calls Try.prog 10 #[arcV x y r f s, .int .i64 v] w fun e w' => e = .returned (.tuple #[ptV p q, .int .i64 ((g + qq) % 129600000), .int .i64 0]) ∧ Below w.heap.size w w' := by
  obtain ⟨_, _, _, s0, s1⟩ := avd_of h
  have HL := Lib.hid (fun w => alen_b x y r f s w h)
  rw [hN] at HL
  have HR := Lib.hid (fun w => ray_any x y g r w)
  rw [hX] at HR
  have HAb := Lib.hid (fun w => abs_any s w (by omega) (by omega))
  have a0 : 0 ≤ iabs s := by unfold iabs; split <;> omega
  have a1 : iabs s ≤ 129600000 := by unfold iabs; split <;> omega
  generalize iabs s = S at *
  have HM := Lib.hid (fun w => mdr2_any v S N w (by omega) (by omega) (by omega) (by omega) (by omega) (by omega))
  rw [hw] at HM
  have HS1 := Lib.hid (fun w => side_any x y r f s ww w (by omega))
  have HS2 := Lib.hid (fun w => side_any x y r f s 32400000 w (by omega))
  rw [hsv] at HS1
  rw [hqq] at HS2
  have HT1 := Lib.hid (fun w => turn_any f sv w)
  rw [hg] at HT1
  have HT2 := Lib.hid (fun w => turn_any g qq w)
  have HV := Lib.hid h
  clear h hg hX hN hsv hqq hw
  have n2 : ¬ v < 0 := by omega
  have n3 : ¬ v > N := by omega
  have n4 : N > 0 := by omega
  have n6 : 0 < N := by omega
  clear v0 v1 w0 w1 n0 n1 s0 s1 a0 a1
  go_enter Try.func10, Try.ntmps10
  go_wp2_with fail
  have B := below_alloc2 w (.cells #[.int .i64 x, .int .i64 y, .int .i64 r, .int .i64 f, .int .i64 s] 30) (.cells #[.int .i64 0, .int .i64 0] 23)
  have T := (c5_new w (.int .i64 x) (.int .i64 y) (.int .i64 r) (.int .i64 f) (.int .i64 s) 30).alc (.cells #[.int .i64 0, .int .i64 0] 23)
  have Z := c2_new (w.alloc (.cells #[.int .i64 x, .int .i64 y, .int .i64 r, .int .i64 f, .int .i64 s] 30)) (.int .i64 0) (.int .i64 0) 23
  rw [show (w.alloc (.cells #[.int .i64 x, .int .i64 y, .int .i64 r, .int .i64 f, .int .i64 s] 30)).heap.size = w.heap.size + 1 by simp] at Z
  generalize (w.alloc (.cells #[.int .i64 x, .int .i64 y, .int .i64 r, .int .i64 f, .int .i64 s] 30)).alloc (.cells #[.int .i64 0, .int .i64 0] 23) = w0 at *
  refine (avalid_any _ _ _ _ _ _).mono ?_
  rintro e w1 ⟨rfl, hb⟩
  rw [HV.out]
  replace B := thn B hb
  replace T := T.next hb
  replace Z := Z.next hb
  clear hb
  obtain ⟨t0, t1, t2, t3, t4, t5, t6, t7, t8, t9, tl⟩ := id T
  go_wp2_with fail
  refine (HL.out _).mono ?_
  rintro e w2 ⟨rfl, hb⟩
  clear t0 t1 t2 t3 t4 t5 t6 t7 t8 t9 tl
  replace B := thn B hb
  replace T := T.next hb
  replace Z := Z.next hb
  clear hb
  obtain ⟨t0, t1, t2, t3, t4, t5, t6, t7, t8, t9, tl⟩ := id T
  go_wp2_with (go_at_call 16; refine (HAb.out _).mono ?_; rintro e w' ⟨rfl, rfl⟩)
  refine (HM.out _).mono ?_
  rintro e w3 ⟨rfl, hd⟩
  clear t0 t1 t2 t3 t4 t5 t6 t7 t8 t9 tl
  replace B := thn B (hd.below _)
  replace T := T.next (hd.below _)
  replace Z := Z.next (hd.below _)
  clear hd
  go_wp2_with fail
  have L0 : ∀ w', Below w3.heap.size w3 w' → w'.cell? ⟨w.heap.size, 0, none⟩ = some (.int .i64 x) := fun _ h => (T.next h).c0
  have L1 : ∀ w', Below w3.heap.size w3 w' → w'.cell? ⟨w.heap.size, 1, none⟩ = some (.int .i64 y) := fun _ h => (T.next h).c1
  have L2 : ∀ w', Below w3.heap.size w3 w' → w'.cell? ⟨w.heap.size, 2, none⟩ = some (.int .i64 r) := fun _ h => (T.next h).c2
  have L3 : ∀ w', Below w3.heap.size w3 w' → w'.cell? ⟨w.heap.size, 3, none⟩ = some (.int .i64 f) := fun _ h => (T.next h).c3
  have L4 : ∀ w', Below w3.heap.size w3 w' → w'.cell? ⟨w.heap.size, 4, none⟩ = some (.int .i64 s) := fun _ h => (T.next h).c4
  have HB := Lib.hid (And.intro B (And.intro T Z))
  clear B T Z
  go_region_held3 (fun w' => Below w3.heap.size w3 w') (first | with_reducible exact bdrew _ | with_reducible exact hS1)
    (first | (go_at_call 20; with_reducible refine (HS1.out _).mono ?_; rintro e x1 ⟨rfl, hb1⟩; have hS1 := thn (bdrew w3) hb1) | (go_at_call 21; with_reducible refine (HT1.out _).mono ?_; rintro e w' ⟨rfl, rfl⟩))
  clear L0 L1 L2 L3 L4
  obtain ⟨B, T, Z⟩ := HB.out
  clear HB
  replace B := thn B hS1
  replace T := T.next hS1
  replace Z := Z.next hS1
  clear hS1 hb1
  obtain ⟨t0, t1, t2, t3, t4, t5, t6, t7, t8, t9, tl⟩ := id T
  go_wp2_with fail
  refine (HR.out _).mono ?_
  rintro e w4 ⟨rfl, hb⟩
  clear t0 t1 t2 t3 t4 t5 t6 t7 t8 t9 tl
  have hqz : w4.heap.size ≠ w.heap.size + 1 := by have := (Z.next hb).lt; omega
  have Q := c2_new w4 (.int .i64 p) (.int .i64 q) 23
  replace B := alc (thn B hb) (.cells #[.int .i64 p, .int .i64 q] 23)
  replace T := (T.next hb).alc (.cells #[.int .i64 p, .int .i64 q] 23)
  replace Z := (Z.next hb).alc (.cells #[.int .i64 p, .int .i64 q] 23)
  clear hb
  go_upto_region 12 with fail
  generalize w4.alloc (.cells #[.int .i64 p, .int .i64 q] 23) = v at *
  generalize w4.heap.size = bq at *
  have htz : w.heap.size ≠ w.heap.size + 1 := by omega
  have L0 : ∀ w', Bx (w.heap.size + 1) v w' → w'.cell? ⟨w.heap.size, 0, none⟩ = some (.int .i64 x) := fun _ h => (T.bx h htz).c0
  have L1 : ∀ w', Bx (w.heap.size + 1) v w' → w'.cell? ⟨w.heap.size, 1, none⟩ = some (.int .i64 y) := fun _ h => (T.bx h htz).c1
  have L2 : ∀ w', Bx (w.heap.size + 1) v w' → w'.cell? ⟨w.heap.size, 2, none⟩ = some (.int .i64 r) := fun _ h => (T.bx h htz).c2
  have L3 : ∀ w', Bx (w.heap.size + 1) v w' → w'.cell? ⟨w.heap.size, 3, none⟩ = some (.int .i64 f) := fun _ h => (T.bx h htz).c3
  have L4 : ∀ w', Bx (w.heap.size + 1) v w' → w'.cell? ⟨w.heap.size, 4, none⟩ = some (.int .i64 s) := fun _ h => (T.bx h htz).c4
  have L5 : ∀ w', Bx (w.heap.size + 1) v w' → w'.cell? ⟨bq, 0, none⟩ = some (.int .i64 p) := fun _ h => (Q.bx h hqz).c0
  have L6 : ∀ w', Bx (w.heap.size + 1) v w' → w'.cell? ⟨bq, 1, none⟩ = some (.int .i64 q) := fun _ h => (Q.bx h hqz).c1
  clear T Q
  go_region_held3 (fun w' => Bx (w.heap.size + 1) v w') (first | with_reducible exact Bx.of (bdrew _) | with_reducible exact hS2 | with_reducible exact Bx.put (Bx.put hS2 rfl _) rfl _)
    (first | (go_at_call 20; with_reducible refine (HS2.out _).mono ?_; rintro e x2 ⟨rfl, hb2⟩; have hQ2 := thn (bdrew v) hb2; have hS2 : Bx (w.heap.size + 1) v x2 := Bx.of hQ2; have Z2 := Z.next hQ2; have B2 := thn B hQ2; have q0 := Z2.c0; have q1 := Z2.c1; have r0 := Z2.f0; have r1 := Z2.f1) | (go_at_call 21; with_reducible refine (HT2.out _).mono ?_; rintro e w' ⟨rfl, rfl⟩))
  clear L0 L1 L2 L3 L4 L5 L6 q0 q1 r0 r1
  go_wp2_with fail
  have Z5 := Z2.put (.int .i64 p) (.int .i64 q)
  have B5 := below_put2 B2 (b := w.heap.size + 1) (Nat.le_succ _) (.int .i64 p) (.int .i64 q)
  obtain ⟨z0, z1, z2, z3, zl⟩ := Z5
  exact bodyPost_ret (v := .tuple #[ptV p q, .int .i64 ((g + qq) % 129600000), .int .i64 0]) (by simp [results, Try.results10, go_sem, z0, z1]) rfl ⟨rfl, B5⟩

set_option maxRecDepth 4000 in
set_option maxHeartbeats 16000000 in
theorem tat_02 (x y r f s g N v ww sv qq p q : Int) (w : World) (h : avd x y r f s = true) (hN : qnear (r * iabs s) 20626481 = N) (n0 : 0 < N) (n1 : N ≤ 100000000) (v0 : 0 ≤ v) (v1 : v ≤ N) (hw : qnear (v * iabs s) N = ww) (w0 : 0 ≤ ww) (w1 : ww ≤ 129600000) (hsv : (if s < 0 then -ww else ww) = sv) (hqq : (if s < 0 then -32400000 else 32400000) = qq) (hg : (f + sv) % 129600000 = g) (hX : rayv x y g r = (0, 0, 2)) :
    Calls Try.prog 10 #[arcV x y r f s, .int .i64 v] w fun e w' => e = .returned (.tuple #[ptV 0 0, .int .i64 0, .int .i64 2]) ∧ Below w.heap.size w w' := by
  obtain ⟨_, _, _, s0, s1⟩ := avd_of h
  have HL := Lib.hid (fun w => alen_b x y r f s w h)
  rw [hN] at HL
  have HR := Lib.hid (fun w => ray_any x y g r w)
  rw [hX] at HR
  have HAb := Lib.hid (fun w => abs_any s w (by omega) (by omega))
  have a0 : 0 ≤ iabs s := by unfold iabs; split <;> omega
  have a1 : iabs s ≤ 129600000 := by unfold iabs; split <;> omega
  generalize iabs s = S at *
  have HM := Lib.hid (fun w => mdr2_any v S N w (by omega) (by omega) (by omega) (by omega) (by omega) (by omega))
  rw [hw] at HM
  have HS1 := Lib.hid (fun w => side_any x y r f s ww w (by omega))
  have HS2 := Lib.hid (fun w => side_any x y r f s 32400000 w (by omega))
  rw [hsv] at HS1
  rw [hqq] at HS2
  have HT1 := Lib.hid (fun w => turn_any f sv w)
  rw [hg] at HT1
  have HT2 := Lib.hid (fun w => turn_any g qq w)
  have HV := Lib.hid h
  clear h hg hX hN hsv hqq hw
  have n2 : ¬ v < 0 := by omega
  have n3 : ¬ v > N := by omega
  have n4 : N > 0 := by omega
  have n6 : 0 < N := by omega
  clear v0 v1 w0 w1 n0 n1 s0 s1 a0 a1
  go_enter Try.func10, Try.ntmps10
  go_wp2_with fail
  have B := below_alloc2 w (.cells #[.int .i64 x, .int .i64 y, .int .i64 r, .int .i64 f, .int .i64 s] 30) (.cells #[.int .i64 0, .int .i64 0] 23)
  have T := (c5_new w (.int .i64 x) (.int .i64 y) (.int .i64 r) (.int .i64 f) (.int .i64 s) 30).alc (.cells #[.int .i64 0, .int .i64 0] 23)
  have Z := c2_new (w.alloc (.cells #[.int .i64 x, .int .i64 y, .int .i64 r, .int .i64 f, .int .i64 s] 30)) (.int .i64 0) (.int .i64 0) 23
  rw [show (w.alloc (.cells #[.int .i64 x, .int .i64 y, .int .i64 r, .int .i64 f, .int .i64 s] 30)).heap.size = w.heap.size + 1 by simp] at Z
  generalize (w.alloc (.cells #[.int .i64 x, .int .i64 y, .int .i64 r, .int .i64 f, .int .i64 s] 30)).alloc (.cells #[.int .i64 0, .int .i64 0] 23) = w0 at *
  refine (avalid_any _ _ _ _ _ _).mono ?_
  rintro e w1 ⟨rfl, hb⟩
  rw [HV.out]
  replace B := thn B hb
  replace T := T.next hb
  replace Z := Z.next hb
  clear hb
  obtain ⟨t0, t1, t2, t3, t4, t5, t6, t7, t8, t9, tl⟩ := id T
  go_wp2_with fail
  refine (HL.out _).mono ?_
  rintro e w2 ⟨rfl, hb⟩
  clear t0 t1 t2 t3 t4 t5 t6 t7 t8 t9 tl
  replace B := thn B hb
  replace T := T.next hb
  replace Z := Z.next hb
  clear hb
  obtain ⟨t0, t1, t2, t3, t4, t5, t6, t7, t8, t9, tl⟩ := id T
  go_wp2_with (go_at_call 16; refine (HAb.out _).mono ?_; rintro e w' ⟨rfl, rfl⟩)
  refine (HM.out _).mono ?_
  rintro e w3 ⟨rfl, hd⟩
  clear t0 t1 t2 t3 t4 t5 t6 t7 t8 t9 tl
  replace B := thn B (hd.below _)
  replace T := T.next (hd.below _)
  replace Z := Z.next (hd.below _)
  clear hd
  go_wp2_with fail
  have L0 : ∀ w', Below w3.heap.size w3 w' → w'.cell? ⟨w.heap.size, 0, none⟩ = some (.int .i64 x) := fun _ h => (T.next h).c0
  have L1 : ∀ w', Below w3.heap.size w3 w' → w'.cell? ⟨w.heap.size, 1, none⟩ = some (.int .i64 y) := fun _ h => (T.next h).c1
  have L2 : ∀ w', Below w3.heap.size w3 w' → w'.cell? ⟨w.heap.size, 2, none⟩ = some (.int .i64 r) := fun _ h => (T.next h).c2
  have L3 : ∀ w', Below w3.heap.size w3 w' → w'.cell? ⟨w.heap.size, 3, none⟩ = some (.int .i64 f) := fun _ h => (T.next h).c3
  have L4 : ∀ w', Below w3.heap.size w3 w' → w'.cell? ⟨w.heap.size, 4, none⟩ = some (.int .i64 s) := fun _ h => (T.next h).c4
  have HB := Lib.hid (And.intro B (And.intro T Z))
  clear B T Z
  go_region_held3 (fun w' => Below w3.heap.size w3 w') (first | with_reducible exact bdrew _ | with_reducible exact hS1)
    (first | (go_at_call 20; with_reducible refine (HS1.out _).mono ?_; rintro e x1 ⟨rfl, hb1⟩; have hS1 := thn (bdrew w3) hb1) | (go_at_call 21; with_reducible refine (HT1.out _).mono ?_; rintro e w' ⟨rfl, rfl⟩))
  clear L0 L1 L2 L3 L4
  obtain ⟨B, T, Z⟩ := HB.out
  clear HB
  replace B := thn B hS1
  replace T := T.next hS1
  replace Z := Z.next hS1
  clear hS1 hb1
  obtain ⟨t0, t1, t2, t3, t4, t5, t6, t7, t8, t9, tl⟩ := id T
  go_wp2_with fail
  refine (HR.out _).mono ?_
  rintro e w4 ⟨rfl, hb⟩
  clear t0 t1 t2 t3 t4 t5 t6 t7 t8 t9 tl
  have hqz : w4.heap.size ≠ w.heap.size + 1 := by have := (Z.next hb).lt; omega
  have Q := c2_new w4 (.int .i64 0) (.int .i64 0) 23
  replace B := alc (thn B hb) (.cells #[.int .i64 0, .int .i64 0] 23)
  replace T := (T.next hb).alc (.cells #[.int .i64 0, .int .i64 0] 23)
  replace Z := (Z.next hb).alc (.cells #[.int .i64 0, .int .i64 0] 23)
  clear hb
  obtain ⟨z0, z1, z2, z3, zl⟩ := id Z
  go_wp2_with fail
  clear z0 z1 z2 z3 zl
  have Z5 := Z.put (.int .i64 0) (.int .i64 0)
  have B5 := below_put2 B (b := w.heap.size + 1) (Nat.le_succ _) (.int .i64 0) (.int .i64 0)
  obtain ⟨z0, z1, z2, z3, zl⟩ := Z5
  exact bodyPost_ret (v := .tuple #[ptV 0 0, .int .i64 0, .int .i64 2]) (by simp [results, Try.results10, go_sem, z0, z1]) rfl ⟨rfl, B5⟩

set_option maxRecDepth 4000 in
set_option maxHeartbeats 16000000 in
theorem tat_10 (x y r f s g N v ww sv qq p q : Int) (w : World) (h : avd x y r f s = true) (hN : qnear (r * iabs s) 20626481 = N) (n0 : N = 0) (v0 : v = 0) (w0 : ww = 0) (hsv : (if s < 0 then -ww else ww) = sv) (hqq : (if s < 0 then -32400000 else 32400000) = qq) (hg : (f + sv) % 129600000 = g) (hX : rayv x y g r = (p, q, 0)) :
    Calls Try.prog 10 #[arcV x y r f s, .int .i64 v] w fun e w' => e = .returned (.tuple #[ptV p q, .int .i64 ((g + qq) % 129600000), .int .i64 0]) ∧ Below w.heap.size w w' := by
  obtain ⟨_, _, _, s0, s1⟩ := avd_of h
  have HL := Lib.hid (fun w => alen_b x y r f s w h)
  rw [hN] at HL
  have HR := Lib.hid (fun w => ray_any x y g r w)
  rw [hX] at HR
  have HAb := Lib.hid (fun w => abs_any s w (by omega) (by omega))
  have a0 : 0 ≤ iabs s := by unfold iabs; split <;> omega
  have a1 : iabs s ≤ 129600000 := by unfold iabs; split <;> omega
  generalize iabs s = S at *
  have HS1 := Lib.hid (fun w => side_any x y r f s ww w (by omega))
  have HS2 := Lib.hid (fun w => side_any x y r f s 32400000 w (by omega))
  rw [hsv] at HS1
  rw [hqq] at HS2
  have HT1 := Lib.hid (fun w => turn_any f sv w)
  rw [hg] at HT1
  have HT2 := Lib.hid (fun w => turn_any g qq w)
  have HV := Lib.hid h
  clear h hg hX hN hsv hqq 
  have n2 : ¬ (0 : Int) < 0 := by omega
  have n3 : ¬ (0 : Int) > 0 := by omega
  subst v0 n0 w0
  go_enter Try.func10, Try.ntmps10
  go_wp2_with fail
  have B := below_alloc2 w (.cells #[.int .i64 x, .int .i64 y, .int .i64 r, .int .i64 f, .int .i64 s] 30) (.cells #[.int .i64 0, .int .i64 0] 23)
  have T := (c5_new w (.int .i64 x) (.int .i64 y) (.int .i64 r) (.int .i64 f) (.int .i64 s) 30).alc (.cells #[.int .i64 0, .int .i64 0] 23)
  have Z := c2_new (w.alloc (.cells #[.int .i64 x, .int .i64 y, .int .i64 r, .int .i64 f, .int .i64 s] 30)) (.int .i64 0) (.int .i64 0) 23
  rw [show (w.alloc (.cells #[.int .i64 x, .int .i64 y, .int .i64 r, .int .i64 f, .int .i64 s] 30)).heap.size = w.heap.size + 1 by simp] at Z
  generalize (w.alloc (.cells #[.int .i64 x, .int .i64 y, .int .i64 r, .int .i64 f, .int .i64 s] 30)).alloc (.cells #[.int .i64 0, .int .i64 0] 23) = w0 at *
  refine (avalid_any _ _ _ _ _ _).mono ?_
  rintro e w1 ⟨rfl, hb⟩
  rw [HV.out]
  replace B := thn B hb
  replace T := T.next hb
  replace Z := Z.next hb
  clear hb
  obtain ⟨t0, t1, t2, t3, t4, t5, t6, t7, t8, t9, tl⟩ := id T
  go_wp2_with fail
  refine (HL.out _).mono ?_
  rintro e w2 ⟨rfl, hb⟩
  clear t0 t1 t2 t3 t4 t5 t6 t7 t8 t9 tl
  replace B := thn B hb
  replace T := T.next hb
  replace Z := Z.next hb
  clear hb
  go_wp2_with fail
  have L0 : ∀ w', Below w2.heap.size w2 w' → w'.cell? ⟨w.heap.size, 0, none⟩ = some (.int .i64 x) := fun _ h => (T.next h).c0
  have L1 : ∀ w', Below w2.heap.size w2 w' → w'.cell? ⟨w.heap.size, 1, none⟩ = some (.int .i64 y) := fun _ h => (T.next h).c1
  have L2 : ∀ w', Below w2.heap.size w2 w' → w'.cell? ⟨w.heap.size, 2, none⟩ = some (.int .i64 r) := fun _ h => (T.next h).c2
  have L3 : ∀ w', Below w2.heap.size w2 w' → w'.cell? ⟨w.heap.size, 3, none⟩ = some (.int .i64 f) := fun _ h => (T.next h).c3
  have L4 : ∀ w', Below w2.heap.size w2 w' → w'.cell? ⟨w.heap.size, 4, none⟩ = some (.int .i64 s) := fun _ h => (T.next h).c4
  have HB := Lib.hid (And.intro B (And.intro T Z))
  clear B T Z
  go_region_held3 (fun w' => Below w2.heap.size w2 w') (first | with_reducible exact bdrew _ | with_reducible exact hS1)
    (first | (go_at_call 20; with_reducible refine (HS1.out _).mono ?_; rintro e x1 ⟨rfl, hb1⟩; have hS1 := thn (bdrew w2) hb1) | (go_at_call 21; with_reducible refine (HT1.out _).mono ?_; rintro e w' ⟨rfl, rfl⟩))
  clear L0 L1 L2 L3 L4
  obtain ⟨B, T, Z⟩ := HB.out
  clear HB
  replace B := thn B hS1
  replace T := T.next hS1
  replace Z := Z.next hS1
  clear hS1 hb1
  obtain ⟨t0, t1, t2, t3, t4, t5, t6, t7, t8, t9, tl⟩ := id T
  go_wp2_with fail
  refine (HR.out _).mono ?_
  rintro e w4 ⟨rfl, hb⟩
  clear t0 t1 t2 t3 t4 t5 t6 t7 t8 t9 tl
  have hqz : w4.heap.size ≠ w.heap.size + 1 := by have := (Z.next hb).lt; omega
  have Q := c2_new w4 (.int .i64 p) (.int .i64 q) 23
  replace B := alc (thn B hb) (.cells #[.int .i64 p, .int .i64 q] 23)
  replace T := (T.next hb).alc (.cells #[.int .i64 p, .int .i64 q] 23)
  replace Z := (Z.next hb).alc (.cells #[.int .i64 p, .int .i64 q] 23)
  clear hb
  go_upto_region 12 with fail
  generalize w4.alloc (.cells #[.int .i64 p, .int .i64 q] 23) = v at *
  generalize w4.heap.size = bq at *
  have htz : w.heap.size ≠ w.heap.size + 1 := by omega
  have L0 : ∀ w', Bx (w.heap.size + 1) v w' → w'.cell? ⟨w.heap.size, 0, none⟩ = some (.int .i64 x) := fun _ h => (T.bx h htz).c0
  have L1 : ∀ w', Bx (w.heap.size + 1) v w' → w'.cell? ⟨w.heap.size, 1, none⟩ = some (.int .i64 y) := fun _ h => (T.bx h htz).c1
  have L2 : ∀ w', Bx (w.heap.size + 1) v w' → w'.cell? ⟨w.heap.size, 2, none⟩ = some (.int .i64 r) := fun _ h => (T.bx h htz).c2
  have L3 : ∀ w', Bx (w.heap.size + 1) v w' → w'.cell? ⟨w.heap.size, 3, none⟩ = some (.int .i64 f) := fun _ h => (T.bx h htz).c3
  have L4 : ∀ w', Bx (w.heap.size + 1) v w' → w'.cell? ⟨w.heap.size, 4, none⟩ = some (.int .i64 s) := fun _ h => (T.bx h htz).c4
  have L5 : ∀ w', Bx (w.heap.size + 1) v w' → w'.cell? ⟨bq, 0, none⟩ = some (.int .i64 p) := fun _ h => (Q.bx h hqz).c0
  have L6 : ∀ w', Bx (w.heap.size + 1) v w' → w'.cell? ⟨bq, 1, none⟩ = some (.int .i64 q) := fun _ h => (Q.bx h hqz).c1
  clear T Q
  go_region_held3 (fun w' => Bx (w.heap.size + 1) v w') (first | with_reducible exact Bx.of (bdrew _) | with_reducible exact hS2 | with_reducible exact Bx.put (Bx.put hS2 rfl _) rfl _)
    (first | (go_at_call 20; with_reducible refine (HS2.out _).mono ?_; rintro e x2 ⟨rfl, hb2⟩; have hQ2 := thn (bdrew v) hb2; have hS2 : Bx (w.heap.size + 1) v x2 := Bx.of hQ2; have Z2 := Z.next hQ2; have B2 := thn B hQ2; have q0 := Z2.c0; have q1 := Z2.c1; have r0 := Z2.f0; have r1 := Z2.f1) | (go_at_call 21; with_reducible refine (HT2.out _).mono ?_; rintro e w' ⟨rfl, rfl⟩))
  clear L0 L1 L2 L3 L4 L5 L6 q0 q1 r0 r1
  go_wp2_with fail
  have Z5 := Z2.put (.int .i64 p) (.int .i64 q)
  have B5 := below_put2 B2 (b := w.heap.size + 1) (Nat.le_succ _) (.int .i64 p) (.int .i64 q)
  obtain ⟨z0, z1, z2, z3, zl⟩ := Z5
  exact bodyPost_ret (v := .tuple #[ptV p q, .int .i64 ((g + qq) % 129600000), .int .i64 0]) (by simp [results, Try.results10, go_sem, z0, z1]) rfl ⟨rfl, B5⟩

set_option maxRecDepth 4000 in
set_option maxHeartbeats 16000000 in
theorem tat_12 (x y r f s g N v ww sv qq p q : Int) (w : World) (h : avd x y r f s = true) (hN : qnear (r * iabs s) 20626481 = N) (n0 : N = 0) (v0 : v = 0) (w0 : ww = 0) (hsv : (if s < 0 then -ww else ww) = sv) (hqq : (if s < 0 then -32400000 else 32400000) = qq) (hg : (f + sv) % 129600000 = g) (hX : rayv x y g r = (0, 0, 2)) :
    Calls Try.prog 10 #[arcV x y r f s, .int .i64 v] w fun e w' => e = .returned (.tuple #[ptV 0 0, .int .i64 0, .int .i64 2]) ∧ Below w.heap.size w w' := by
  obtain ⟨_, _, _, s0, s1⟩ := avd_of h
  have HL := Lib.hid (fun w => alen_b x y r f s w h)
  rw [hN] at HL
  have HR := Lib.hid (fun w => ray_any x y g r w)
  rw [hX] at HR
  have HAb := Lib.hid (fun w => abs_any s w (by omega) (by omega))
  have a0 : 0 ≤ iabs s := by unfold iabs; split <;> omega
  have a1 : iabs s ≤ 129600000 := by unfold iabs; split <;> omega
  generalize iabs s = S at *
  have HS1 := Lib.hid (fun w => side_any x y r f s ww w (by omega))
  have HS2 := Lib.hid (fun w => side_any x y r f s 32400000 w (by omega))
  rw [hsv] at HS1
  rw [hqq] at HS2
  have HT1 := Lib.hid (fun w => turn_any f sv w)
  rw [hg] at HT1
  have HT2 := Lib.hid (fun w => turn_any g qq w)
  have HV := Lib.hid h
  clear h hg hX hN hsv hqq 
  have n2 : ¬ (0 : Int) < 0 := by omega
  have n3 : ¬ (0 : Int) > 0 := by omega
  subst v0 n0 w0
  go_enter Try.func10, Try.ntmps10
  go_wp2_with fail
  have B := below_alloc2 w (.cells #[.int .i64 x, .int .i64 y, .int .i64 r, .int .i64 f, .int .i64 s] 30) (.cells #[.int .i64 0, .int .i64 0] 23)
  have T := (c5_new w (.int .i64 x) (.int .i64 y) (.int .i64 r) (.int .i64 f) (.int .i64 s) 30).alc (.cells #[.int .i64 0, .int .i64 0] 23)
  have Z := c2_new (w.alloc (.cells #[.int .i64 x, .int .i64 y, .int .i64 r, .int .i64 f, .int .i64 s] 30)) (.int .i64 0) (.int .i64 0) 23
  rw [show (w.alloc (.cells #[.int .i64 x, .int .i64 y, .int .i64 r, .int .i64 f, .int .i64 s] 30)).heap.size = w.heap.size + 1 by simp] at Z
  generalize (w.alloc (.cells #[.int .i64 x, .int .i64 y, .int .i64 r, .int .i64 f, .int .i64 s] 30)).alloc (.cells #[.int .i64 0, .int .i64 0] 23) = w0 at *
  refine (avalid_any _ _ _ _ _ _).mono ?_
  rintro e w1 ⟨rfl, hb⟩
  rw [HV.out]
  replace B := thn B hb
  replace T := T.next hb
  replace Z := Z.next hb
  clear hb
  obtain ⟨t0, t1, t2, t3, t4, t5, t6, t7, t8, t9, tl⟩ := id T
  go_wp2_with fail
  refine (HL.out _).mono ?_
  rintro e w2 ⟨rfl, hb⟩
  clear t0 t1 t2 t3 t4 t5 t6 t7 t8 t9 tl
  replace B := thn B hb
  replace T := T.next hb
  replace Z := Z.next hb
  clear hb
  go_wp2_with fail
  have L0 : ∀ w', Below w2.heap.size w2 w' → w'.cell? ⟨w.heap.size, 0, none⟩ = some (.int .i64 x) := fun _ h => (T.next h).c0
  have L1 : ∀ w', Below w2.heap.size w2 w' → w'.cell? ⟨w.heap.size, 1, none⟩ = some (.int .i64 y) := fun _ h => (T.next h).c1
  have L2 : ∀ w', Below w2.heap.size w2 w' → w'.cell? ⟨w.heap.size, 2, none⟩ = some (.int .i64 r) := fun _ h => (T.next h).c2
  have L3 : ∀ w', Below w2.heap.size w2 w' → w'.cell? ⟨w.heap.size, 3, none⟩ = some (.int .i64 f) := fun _ h => (T.next h).c3
  have L4 : ∀ w', Below w2.heap.size w2 w' → w'.cell? ⟨w.heap.size, 4, none⟩ = some (.int .i64 s) := fun _ h => (T.next h).c4
  have HB := Lib.hid (And.intro B (And.intro T Z))
  clear B T Z
  go_region_held3 (fun w' => Below w2.heap.size w2 w') (first | with_reducible exact bdrew _ | with_reducible exact hS1)
    (first | (go_at_call 20; with_reducible refine (HS1.out _).mono ?_; rintro e x1 ⟨rfl, hb1⟩; have hS1 := thn (bdrew w2) hb1) | (go_at_call 21; with_reducible refine (HT1.out _).mono ?_; rintro e w' ⟨rfl, rfl⟩))
  clear L0 L1 L2 L3 L4
  obtain ⟨B, T, Z⟩ := HB.out
  clear HB
  replace B := thn B hS1
  replace T := T.next hS1
  replace Z := Z.next hS1
  clear hS1 hb1
  obtain ⟨t0, t1, t2, t3, t4, t5, t6, t7, t8, t9, tl⟩ := id T
  go_wp2_with fail
  refine (HR.out _).mono ?_
  rintro e w4 ⟨rfl, hb⟩
  clear t0 t1 t2 t3 t4 t5 t6 t7 t8 t9 tl
  have hqz : w4.heap.size ≠ w.heap.size + 1 := by have := (Z.next hb).lt; omega
  have Q := c2_new w4 (.int .i64 0) (.int .i64 0) 23
  replace B := alc (thn B hb) (.cells #[.int .i64 0, .int .i64 0] 23)
  replace T := (T.next hb).alc (.cells #[.int .i64 0, .int .i64 0] 23)
  replace Z := (Z.next hb).alc (.cells #[.int .i64 0, .int .i64 0] 23)
  clear hb
  obtain ⟨z0, z1, z2, z3, zl⟩ := id Z
  go_wp2_with fail
  clear z0 z1 z2 z3 zl
  have Z5 := Z.put (.int .i64 0) (.int .i64 0)
  have B5 := below_put2 B (b := w.heap.size + 1) (Nat.le_succ _) (.int .i64 0) (.int .i64 0)
  obtain ⟨z0, z1, z2, z3, zl⟩ := Z5
  exact bodyPost_ret (v := .tuple #[ptV 0 0, .int .i64 0, .int .i64 2]) (by simp [results, Try.results10, go_sem, z0, z1]) rfl ⟨rfl, B5⟩

theorem qn_le {v S N : Int} (v0 : 0 ≤ v) (v1 : v ≤ N) (S0 : 0 ≤ S) (N0 : 0 < N) : 0 ≤ qnear (v * S) N ∧ qnear (v * S) N ≤ S := by
  unfold qnear
  have k := Int.mul_nonneg v0 S0
  have k2 := Int.mul_le_mul_of_nonneg_right v1 S0
  constructor
  · exact Int.ediv_nonneg (by omega) (by omega)
  · have : (2 * (v * S) + N) / (2 * N) < S + 1 := Int.ediv_lt_of_lt_mul (by omega) (by rw [Int.add_mul, show S * (2 * N) = 2 * (N * S) by rw [Int.mul_comm S, Int.mul_assoc]]; omega)
    omega
def atw (s N v : Int) : Int := if N = 0 then 0 else qnear (v * iabs s) N
def atg (f s N v : Int) : Int := (f + (if s < 0 then -atw s N v else atw s N v)) % 129600000
theorem rayv_cases (x y g r : Int) (h : pvd x y = true) : (∃ p q, rayv x y g r = (p, q, 0)) ∨ rayv x y g r = (0, 0, 2) := by
  unfold rayv
  rw [h]
  split
  · split
    · exact .inr rfl
    · split
      · exact .inl ⟨_, _, rfl⟩
      · exact .inr rfl
  · contradiction
theorem tat_any (x y r f s v : Int) (w : World) (h : avd x y r f s = true) (v0 : 0 ≤ v) (v1 : v ≤ alen x y r f s) :
    Calls Try.prog 10 #[arcV x y r f s, .int .i64 v] w fun e w' => (∃ p q c, e = .returned (.tuple #[ptV p q, .int .i64 c, .int .i64 (rayv x y (atg f s (alen x y r f s) v) r).2.2]) ∧ ((rayv x y (atg f s (alen x y r f s) v) r).2.2 = 2 ∨ rayv x y (atg f s (alen x y r f s) v) r = (p, q, 0))) ∧ Below w.heap.size w w' := by
  have hN : qnear (r * iabs s) 20626481 = alen x y r f s := by unfold alen; rw [h]; rfl
  obtain ⟨hp, ⟨r0, r1⟩, _, s0, s1⟩ := avd_of h
  have a0 : 0 ≤ iabs s := by unfold iabs; split <;> omega
  have a1 : iabs s ≤ 129600000 := by unfold iabs; split <;> omega
  have k := pb (p := r) (q := iabs s) (A := 8000000) (B := 129600000) 1036800000000000 (by omega) (by omega) (by omega) (by decide)
  have n1 : alen x y r f s ≤ 100000000 := by rw [← hN]; unfold qnear; omega
  have hc := rayv_cases x y (atg f s (alen x y r f s) v) r hp
  generalize alen x y r f s = N at *
  by_cases hz : N = 0
  · obtain rfl : v = 0 := by omega
    have e : atg f s N 0 = (f + (if s < 0 then -0 else 0)) % 129600000 := by unfold atg atw; rw [if_pos hz]
    rcases hc with ⟨p, q, hr⟩ | hr
    · refine (tat_10 x y r f s (atg f s N 0) N 0 0 _ _ p q w h hN hz rfl rfl rfl rfl e.symm hr).mono ?_
      rintro e' w' ⟨rfl, hb⟩
      exact ⟨⟨p, q, _, by rw [hr], .inr hr⟩, hb⟩
    · refine (tat_12 x y r f s (atg f s N 0) N 0 0 _ _ 0 0 w h hN hz rfl rfl rfl rfl e.symm hr).mono ?_
      rintro e' w' ⟨rfl, hb⟩
      exact ⟨⟨0, 0, 0, by rw [hr], .inl (by rw [hr])⟩, hb⟩
  · have hb := qn_le (S := iabs s) v0 v1 a0 (by omega)
    have e : atg f s N v = (f + (if s < 0 then -qnear (v * iabs s) N else qnear (v * iabs s) N)) % 129600000 := by unfold atg atw; rw [if_neg hz]
    rcases hc with ⟨p, q, hr⟩ | hr
    · refine (tat_00 x y r f s (atg f s N v) N v _ _ _ p q w h hN (by omega) n1 v0 v1 rfl hb.1 (by omega) rfl rfl e.symm hr).mono ?_
      rintro e' w' ⟨rfl, hb⟩
      exact ⟨⟨p, q, _, by rw [hr], .inr hr⟩, hb⟩
    · refine (tat_02 x y r f s (atg f s N v) N v _ _ _ 0 0 w h hN (by omega) n1 v0 v1 rfl hb.1 (by omega) rfl rfl e.symm hr).mono ?_
      rintro e' w' ⟨rfl, hb⟩
      exact ⟨⟨0, 0, 0, by rw [hr], .inl (by rw [hr])⟩, hb⟩

end Go.Proofs.Ytpgpdglmgpjhlaa
