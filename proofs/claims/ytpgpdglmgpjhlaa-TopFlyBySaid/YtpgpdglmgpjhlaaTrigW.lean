/- The contracts of package trig's sines and cosines, and of the reference's. -/
import Derived.Test.YtpgpdglmgpjhlaaAngle
import Derived.Test.YtpgpdglmgpjhlaaTrigP3
namespace Go.Proofs.Ytpgpdglmgpjhlaa
open Go.RowKit Fdk
set_option linter.unusedVariables false

/-- r behind so many rounds of the sine series, of the cosine series. -/
def rs1 (u : Int) : Int := 2147483648 - sdv u 110
def rs2 (u : Int) : Int := nx u (rs1 u) 72
def rs3 (u : Int) : Int := nx u (rs2 u) 42
def rs4 (u : Int) : Int := nx u (rs3 u) 20
def rs5 (u : Int) : Int := nx u (rs4 u) 6
def rsk (u : Int) : Nat → Int | 0 => 2147483648 | 1 => rs1 u | 2 => rs2 u | 3 => rs3 u | 4 => rs4 u | _ => rs5 u
def rc1 (u : Int) : Int := 2147483648 - sdv u 90
def rc2 (u : Int) : Int := nx u (rc1 u) 56
def rc3 (u : Int) : Int := nx u (rc2 u) 30
def rc4 (u : Int) : Int := nx u (rc3 u) 12
def rc5 (u : Int) : Int := nx u (rc4 u) 2
def rck (u : Int) : Nat → Int | 0 => 2147483648 | 1 => rc1 u | 2 => rc2 u | 3 => rc3 u | 4 => rc4 u | _ => rc5 u
theorem rsk_5 (u : Int) : rsk u 5 = rs u := by unfold rs; rfl
theorem rck_5 (u : Int) : rck u 5 = rc u := by unfold rc; rfl
/-- the bounds of a product in the series. -/
theorem ur_b {u r : Int} (h0 : 0 ≤ u) (h1 : u ≤ 1324700000) (h2 : 1324700000 ≤ r) (h3 : r ≤ 2147483648) : 0 ≤ u * r ∧ u * r ≤ 2900000000000000000 ∧ 0 ≤ mul31 u r ∧ mul31 u r ≤ 1324700000 := by
  obtain ⟨p0, _, _, p3, _⟩ := prod u u r r h0 (Int.le_refl _) h1 h2 (Int.le_refl _) h3 (by omega)
  unfold mul31
  generalize u * r = P at *
  omega
theorem rsk_b {u : Int} (h0 : 0 ≤ u) (h1 : u ≤ 1324700000) (k : Nat) (hk : k ≤ 5) : 1324700000 ≤ rsk u k ∧ rsk u k ≤ 2147483648 := by
  have t1 := two0 (n := 110) (by simp) h0 (Int.le_refl u) h1
  have t2 := two1 (n := 72) (by simp) h0 (Int.le_refl u) h1 t1
  have t3 := two1 (n := 42) (by simp) h0 (Int.le_refl u) h1 t2
  have t4 := two1 (n := 20) (by simp) h0 (Int.le_refl u) h1 t3
  have t5 := two1 (n := 6) (by simp) h0 (Int.le_refl u) h1 t4
  match k, hk with
  | 0, _ => exact ⟨(by decide : (1324700000 : Int) ≤ 2147483648), Int.le_refl _⟩
  | 1, _ => exact ⟨t1.lo, t1.hi⟩
  | 2, _ => exact ⟨t2.lo, t2.hi⟩
  | 3, _ => exact ⟨t3.lo, t3.hi⟩
  | 4, _ => exact ⟨t4.lo, t4.hi⟩
  | 5, _ => exact ⟨t5.lo, t5.hi⟩
theorem rck_b {u : Int} (h0 : 0 ≤ u) (h1 : u ≤ 1324700000) (k : Nat) (hk : k ≤ 5) : 1324700000 ≤ rck u k ∧ rck u k ≤ 2147483648 := by
  have t1 := two0 (n := 90) (by simp) h0 (Int.le_refl u) h1
  have t2 := two1 (n := 56) (by simp) h0 (Int.le_refl u) h1 t1
  have t3 := two1 (n := 30) (by simp) h0 (Int.le_refl u) h1 t2
  have t4 := two1 (n := 12) (by simp) h0 (Int.le_refl u) h1 t3
  have t5 := two1 (n := 2) (by simp) h0 (Int.le_refl u) h1 t4
  match k, hk with
  | 0, _ => exact ⟨(by decide : (1324700000 : Int) ≤ 2147483648), Int.le_refl _⟩
  | 1, _ => exact ⟨t1.lo, t1.hi⟩
  | 2, _ => exact ⟨t2.lo, t2.hi⟩
  | 3, _ => exact ⟨t3.lo, t3.hi⟩
  | 4, _ => exact ⟨t4.lo, t4.hi⟩
  | 5, _ => exact ⟨t5.lo, t5.hi⟩

theorem sdv_b {x : Int} (n : Int) (h0 : 0 ≤ x) (h1 : x ≤ 1324700000) (hn : 2 ≤ n) (hn2 : n ≤ 200) : 0 ≤ sdv x n ∧ sdv x n ≤ 2147483648 := by
  unfold sdv
  have := Int.ediv_nonneg (a := x + n / 2) (b := n) (by omega) (by omega)
  have := Int.ediv_le_self (a := x + n / 2) n (by omega)
  omega
theorem tr_b {a r : Int} (h0 : 0 ≤ a) (h1 : a ≤ 16200000) (h2 : 1324700000 ≤ r) (h3 : r ≤ 2147483648) : (0 ≤ tq a * r ∧ tq a * r ≤ 4000000000000000000) ∧ 0 ≤ mul31 (tq a) r ∧ mul31 (tq a) r ≤ 1700000000 := by
  have ⟨t0, t1⟩ := tq_b h0 h1
  have k0 : 0 ≤ tq a * r := Int.mul_nonneg t0 (by omega)
  have k1 : tq a * r ≤ 1686629713 * 2147483648 := Int.mul_le_mul t1 h3 (by omega) (by omega)
  unfold mul31
  generalize tq a * r = P at *
  omega

theorem mul_any (x y : Int) (w : World) (h0 : 0 ≤ x * y) (h1 : x * y ≤ 4611686018427387904) :
    Calls Try.prog 55 #[.int .i64 x, .int .i64 y] w fun e w' => e = .returned (.int .i64 (mul31 x y)) ∧ w = w' := by
  go_enter Try.func55, Try.ntmps55
  go_wp2
  go_ret
  exact ⟨ret_i64 (by unfold mul31; omega), rfl⟩
theorem div_any (x n : Int) (w : World) (h0 : 0 ≤ x) (h1 : x ≤ 4611686018427387904) (h2 : 1 ≤ n) (h3 : n ≤ 1000) :
    Calls Try.prog 56 #[.int .i64 x, .int .i64 n] w fun e w' => e = .returned (.int .i64 (sdv x n)) ∧ w = w' := by
  go_enter Try.func56, Try.ntmps56
  go_wp2
  go_ret
  exact ⟨ret_i64 (by unfold sdv; omega), rfl⟩


set_option maxHeartbeats 1600000 in
theorem sine_any (a : Int) (w : World) (h0 : 0 ≤ a) (h1 : a ≤ 16200000) :
    Calls Try.prog 48 #[.int .i64 a] w fun e w' => e = .returned (.int .i64 (sine a)) ∧ w = w' := by
  have ⟨t0, t1⟩ := tq_b h0 h1
  have ⟨u0, u1⟩ := uq_b h0 h1
  have ⟨s0, s1⟩ := sq_b t0 t1
  have hu := Lib.hid (show uq a = mul31 (tq a) (tq a) from rfl)
  have ht := Lib.hid (show tq a = (a * 6746518852 + 32400000) / 64800000 from rfl)
  have hs := Lib.hid (show sine a = (mul31 (tq a) (rs (uq a)) + 1) / 2 from by unfold sine; rfl)
  rw [ht.out] at t0 t1 s0 s1
  have i0 : ∀ w : World, (Instr.index 83 (.agg #[.int .i64 110, .int .i64 72, .int .i64 42, .int .i64 20, .int .i64 6]) (.int .i64 0)).run Try.prog w = .ok (.int .i64 110) w := fun _ => by kernel_rfl
  have i1 : ∀ w : World, (Instr.index 83 (.agg #[.int .i64 110, .int .i64 72, .int .i64 42, .int .i64 20, .int .i64 6]) (.int .i64 1)).run Try.prog w = .ok (.int .i64 72) w := fun _ => by kernel_rfl
  have i2 : ∀ w : World, (Instr.index 83 (.agg #[.int .i64 110, .int .i64 72, .int .i64 42, .int .i64 20, .int .i64 6]) (.int .i64 2)).run Try.prog w = .ok (.int .i64 42) w := fun _ => by kernel_rfl
  have i3 : ∀ w : World, (Instr.index 83 (.agg #[.int .i64 110, .int .i64 72, .int .i64 42, .int .i64 20, .int .i64 6]) (.int .i64 3)).run Try.prog w = .ok (.int .i64 20) w := fun _ => by kernel_rfl
  have i4 : ∀ w : World, (Instr.index 83 (.agg #[.int .i64 110, .int .i64 72, .int .i64 42, .int .i64 20, .int .i64 6]) (.int .i64 4)).run Try.prog w = .ok (.int .i64 6) w := fun _ => by kernel_rfl

  go_enter Try.func48, Try.ntmps48
  go_wp2_with fail
  refine (mul_any _ _ _ s0 (by omega)).mono ?_
  rintro e w' ⟨rfl, rfl⟩
  rw [← ht.out, ← hu.out]
  go_wp2
  go_loop [5, 17] (fun r i => ∃ k : Nat, k ≤ 5 ∧ i = .int .i64 k ∧ r = .int .i64 (rsk (uq a) k)) (fun _ i => 5 - (intOf i).toNat)
  case atStart => exact ⟨0, by omega, rfl, rfl⟩
  case round =>
    obtain ⟨k, hk, rfl, rfl⟩ := hrel
    have ⟨r0, r1⟩ := rsk_b u0 u1 k hk
    have ⟨p0, p1, m0, m1⟩ := ur_b u0 u1 r0 r1
    by_cases h5 : k = 5
    · subst h5
      have hr : Hid (rsk (uq a) 5 = rs (uq a)) := rsk_5 _
      have ⟨⟨x0, x1⟩, x2, x3⟩ := tr_b h0 h1 r0 r1
      go_wp2_with fail
      refine (mul_any _ _ _ x0 (by omega)).mono ?_
      rintro e w' ⟨rfl, rfl⟩
      rw [hr.out]
      rw [hr.out] at x0 x1 x2 x3
      go_wp2
      go_ret
      exact ⟨ret_i64 hs.out.symm, rfl⟩
    · obtain rfl | rfl | rfl | rfl | rfl : k = 0 ∨ k = 1 ∨ k = 2 ∨ k = 3 ∨ k = 4 := by omega
      · have hn : Hid (rsk (uq a) (0 + 1) = 2147483648 - sdv (uq a) 110) := rfl
        have ⟨z0, z1⟩ := sdv_b 110 u0 u1 (by omega) (by omega)
        go_wp2_with (first | (go_at_call 55; refine (mul_any _ _ _ (by assumption) (by omega)).mono ?_; rintro e w' ⟨rfl, rfl⟩) | (go_at_call 56; refine (div_any _ _ _ (by omega) (by omega) (by omega) (by omega)).mono ?_; rintro e w' ⟨rfl, rfl⟩))
        go_round
        case rel => exact ⟨1, by omega, rfl, rfl⟩
        case measure => simp [intOf]
      · have ⟨z0, z1⟩ := sdv_b 72 m0 m1 (by omega) (by omega)
        go_wp2_with (first | (go_at_call 55; refine (mul_any _ _ _ p0 (by omega)).mono ?_; rintro e w' ⟨rfl, rfl⟩) | (go_at_call 56; refine (div_any _ _ _ m0 (by omega) (by omega) (by omega)).mono ?_; rintro e w' ⟨rfl, rfl⟩))
        go_round
        case rel => exact ⟨2, by omega, rfl, rfl⟩
        case measure => simp [intOf]
      · have ⟨z0, z1⟩ := sdv_b 42 m0 m1 (by omega) (by omega)
        go_wp2_with (first | (go_at_call 55; refine (mul_any _ _ _ p0 (by omega)).mono ?_; rintro e w' ⟨rfl, rfl⟩) | (go_at_call 56; refine (div_any _ _ _ m0 (by omega) (by omega) (by omega)).mono ?_; rintro e w' ⟨rfl, rfl⟩))
        go_round
        case rel => exact ⟨3, by omega, rfl, rfl⟩
        case measure => simp [intOf]
      · have ⟨z0, z1⟩ := sdv_b 20 m0 m1 (by omega) (by omega)
        go_wp2_with (first | (go_at_call 55; refine (mul_any _ _ _ p0 (by omega)).mono ?_; rintro e w' ⟨rfl, rfl⟩) | (go_at_call 56; refine (div_any _ _ _ m0 (by omega) (by omega) (by omega)).mono ?_; rintro e w' ⟨rfl, rfl⟩))
        go_round
        case rel => exact ⟨4, by omega, rfl, rfl⟩
        case measure => simp [intOf]
      · have ⟨z0, z1⟩ := sdv_b 6 m0 m1 (by omega) (by omega)
        go_wp2_with (first | (go_at_call 55; refine (mul_any _ _ _ p0 (by omega)).mono ?_; rintro e w' ⟨rfl, rfl⟩) | (go_at_call 56; refine (div_any _ _ _ m0 (by omega) (by omega) (by omega)).mono ?_; rintro e w' ⟨rfl, rfl⟩))
        go_round
        case rel => exact ⟨5, by omega, rfl, rfl⟩
        case measure => simp [intOf]


set_option maxHeartbeats 1600000 in
theorem cosine_any (a : Int) (w : World) (h0 : 0 ≤ a) (h1 : a ≤ 16200000) :
    Calls Try.prog 49 #[.int .i64 a] w fun e w' => e = .returned (.int .i64 (cosine a)) ∧ w = w' := by
  have ⟨t0, t1⟩ := tq_b h0 h1
  have ⟨u0, u1⟩ := uq_b h0 h1
  have ⟨s0, s1⟩ := sq_b t0 t1
  have hu := Lib.hid (show uq a = mul31 (tq a) (tq a) from rfl)
  have ht := Lib.hid (show tq a = (a * 6746518852 + 32400000) / 64800000 from rfl)
  have hs := Lib.hid (show cosine a = (rc (uq a) + 1) / 2 from by unfold cosine; rfl)
  rw [ht.out] at t0 t1 s0 s1
  have i0 : ∀ w : World, (Instr.index 83 (.agg #[.int .i64 90, .int .i64 56, .int .i64 30, .int .i64 12, .int .i64 2]) (.int .i64 0)).run Try.prog w = .ok (.int .i64 90) w := fun _ => by kernel_rfl
  have i1 : ∀ w : World, (Instr.index 83 (.agg #[.int .i64 90, .int .i64 56, .int .i64 30, .int .i64 12, .int .i64 2]) (.int .i64 1)).run Try.prog w = .ok (.int .i64 56) w := fun _ => by kernel_rfl
  have i2 : ∀ w : World, (Instr.index 83 (.agg #[.int .i64 90, .int .i64 56, .int .i64 30, .int .i64 12, .int .i64 2]) (.int .i64 2)).run Try.prog w = .ok (.int .i64 30) w := fun _ => by kernel_rfl
  have i3 : ∀ w : World, (Instr.index 83 (.agg #[.int .i64 90, .int .i64 56, .int .i64 30, .int .i64 12, .int .i64 2]) (.int .i64 3)).run Try.prog w = .ok (.int .i64 12) w := fun _ => by kernel_rfl
  have i4 : ∀ w : World, (Instr.index 83 (.agg #[.int .i64 90, .int .i64 56, .int .i64 30, .int .i64 12, .int .i64 2]) (.int .i64 4)).run Try.prog w = .ok (.int .i64 2) w := fun _ => by kernel_rfl

  go_enter Try.func49, Try.ntmps49
  go_wp2_with fail
  refine (mul_any _ _ _ s0 (by omega)).mono ?_
  rintro e w' ⟨rfl, rfl⟩
  rw [← ht.out, ← hu.out]
  go_wp2
  go_loop [5, 17] (fun r i => ∃ k : Nat, k ≤ 5 ∧ i = .int .i64 k ∧ r = .int .i64 (rck (uq a) k)) (fun _ i => 5 - (intOf i).toNat)
  case atStart => exact ⟨0, by omega, rfl, rfl⟩
  case round =>
    obtain ⟨k, hk, rfl, rfl⟩ := hrel
    have ⟨r0, r1⟩ := rck_b u0 u1 k hk
    have ⟨p0, p1, m0, m1⟩ := ur_b u0 u1 r0 r1
    by_cases h5 : k = 5
    · subst h5
      have hr : Hid (rck (uq a) 5 = rc (uq a)) := rck_5 _
      have ⟨⟨x0, x1⟩, x2, x3⟩ := tr_b h0 h1 r0 r1
      go_wp2_with fail
      go_wp2
      go_ret
      exact ⟨ret_i64 (by rw [hs.out, ← hr.out]), rfl⟩
    · obtain rfl | rfl | rfl | rfl | rfl : k = 0 ∨ k = 1 ∨ k = 2 ∨ k = 3 ∨ k = 4 := by omega
      · have hn : Hid (rck (uq a) (0 + 1) = 2147483648 - sdv (uq a) 90) := rfl
        have ⟨z0, z1⟩ := sdv_b 90 u0 u1 (by omega) (by omega)
        go_wp2_with (first | (go_at_call 55; refine (mul_any _ _ _ (by assumption) (by omega)).mono ?_; rintro e w' ⟨rfl, rfl⟩) | (go_at_call 56; refine (div_any _ _ _ (by omega) (by omega) (by omega) (by omega)).mono ?_; rintro e w' ⟨rfl, rfl⟩))
        go_round
        case rel => exact ⟨1, by omega, rfl, rfl⟩
        case measure => simp [intOf]
      · have ⟨z0, z1⟩ := sdv_b 56 m0 m1 (by omega) (by omega)
        go_wp2_with (first | (go_at_call 55; refine (mul_any _ _ _ p0 (by omega)).mono ?_; rintro e w' ⟨rfl, rfl⟩) | (go_at_call 56; refine (div_any _ _ _ m0 (by omega) (by omega) (by omega)).mono ?_; rintro e w' ⟨rfl, rfl⟩))
        go_round
        case rel => exact ⟨2, by omega, rfl, rfl⟩
        case measure => simp [intOf]
      · have ⟨z0, z1⟩ := sdv_b 30 m0 m1 (by omega) (by omega)
        go_wp2_with (first | (go_at_call 55; refine (mul_any _ _ _ p0 (by omega)).mono ?_; rintro e w' ⟨rfl, rfl⟩) | (go_at_call 56; refine (div_any _ _ _ m0 (by omega) (by omega) (by omega)).mono ?_; rintro e w' ⟨rfl, rfl⟩))
        go_round
        case rel => exact ⟨3, by omega, rfl, rfl⟩
        case measure => simp [intOf]
      · have ⟨z0, z1⟩ := sdv_b 12 m0 m1 (by omega) (by omega)
        go_wp2_with (first | (go_at_call 55; refine (mul_any _ _ _ p0 (by omega)).mono ?_; rintro e w' ⟨rfl, rfl⟩) | (go_at_call 56; refine (div_any _ _ _ m0 (by omega) (by omega) (by omega)).mono ?_; rintro e w' ⟨rfl, rfl⟩))
        go_round
        case rel => exact ⟨4, by omega, rfl, rfl⟩
        case measure => simp [intOf]
      · have ⟨z0, z1⟩ := sdv_b 2 m0 m1 (by omega) (by omega)
        go_wp2_with (first | (go_at_call 55; refine (mul_any _ _ _ p0 (by omega)).mono ?_; rintro e w' ⟨rfl, rfl⟩) | (go_at_call 56; refine (div_any _ _ _ m0 (by omega) (by omega) (by omega)).mono ?_; rintro e w' ⟨rfl, rfl⟩))
        go_round
        case rel => exact ⟨5, by omega, rfl, rfl⟩
        case measure => simp [intOf]





set_option maxHeartbeats 800000 in
theorem quarter_any (a : Int) (w : World) (h0 : 0 ≤ a) (h1 : a ≤ 32400000) :
    Calls Try.prog 36 #[.int .i64 a] w fun e w' => e = .returned (.int .i64 (qsin a)) ∧ w = w' := by
  by_cases h : a ≤ 16200000
  · have hq : Hid (qsin a = sine a) := by show qsin a = _; unfold qsin; rw [if_pos h]
    go_enter Try.func36, Try.ntmps36
    go_wp2_with (first | (go_at_call 48; refine (sine_any _ _ (by omega) (by omega)).mono ?_; rintro e w' ⟨rfl, rfl⟩))
    go_ret
    exact ⟨ret_i64 hq.out.symm, rfl⟩
  · have hq : Hid (qsin a = cosine (32400000 - a)) := by show qsin a = _; unfold qsin; rw [if_neg h]
    go_enter Try.func36, Try.ntmps36
    go_wp2_with (first | (go_at_call 49; refine (cosine_any _ _ (by omega) (by omega)).mono ?_; rintro e w' ⟨rfl, rfl⟩))
    go_ret
    exact ⟨ret_i64 hq.out.symm, rfl⟩
set_option maxHeartbeats 800000 in
theorem sin_any (a : Int) (w : World) :
    Calls Try.prog 18 #[.int .i64 a] w fun e w' => e = .returned (.int .i64 (sn a)) ∧ w = w' := by
  have b0 : 0 ≤ a % 129600000 := by omega
  have b1 : a % 129600000 < 129600000 := by omega
  by_cases h1 : a % 129600000 ≤ 32400000
  · have hq : Hid (sn a = qsin (a % 129600000)) := by show sn a = _; rw [← sn_mod, sn_1 b0 h1]
    go_enter Try.func18, Try.ntmps18
    go_wp2_with (first | (go_at_call 34; refine (norm_any _ _).mono ?_; rintro e w' ⟨rfl, rfl⟩) | (go_at_call 36; refine (quarter_any _ _ (by omega) (by omega)).mono ?_; rintro e w' ⟨rfl, rfl⟩))
    go_ret
    exact ⟨ret_i64 hq.out.symm, rfl⟩
  by_cases h2 : a % 129600000 ≤ 64800000
  · have hq : Hid (sn a = qsin (64800000 - a % 129600000)) := by show sn a = _; rw [← sn_mod, sn_2 (by omega) h2]
    go_enter Try.func18, Try.ntmps18
    go_wp2_with (first | (go_at_call 34; refine (norm_any _ _).mono ?_; rintro e w' ⟨rfl, rfl⟩) | (go_at_call 36; refine (quarter_any _ _ (by omega) (by omega)).mono ?_; rintro e w' ⟨rfl, rfl⟩))
    go_ret
    exact ⟨ret_i64 hq.out.symm, rfl⟩
  by_cases h3 : a % 129600000 ≤ 97200000
  · have hq : Hid (sn a = - qsin (a % 129600000 - 64800000)) := by show sn a = _; rw [← sn_mod, sn_3 (by omega) h3]
    have ⟨c0, c1⟩ := qsin_b (a := a % 129600000 - 64800000) (by omega) (by omega)
    go_enter Try.func18, Try.ntmps18
    go_wp2_with (first | (go_at_call 34; refine (norm_any _ _).mono ?_; rintro e w' ⟨rfl, rfl⟩) | (go_at_call 36; refine (quarter_any _ _ (by omega) (by omega)).mono ?_; rintro e w' ⟨rfl, rfl⟩))
    go_ret
    exact ⟨ret_i64 hq.out.symm, rfl⟩
  · have hq : Hid (sn a = - qsin (129600000 - a % 129600000)) := by show sn a = _; rw [← sn_mod, sn_4 (by omega) (by omega)]
    have ⟨c0, c1⟩ := qsin_b (a := 129600000 - a % 129600000) (by omega) (by omega)
    go_enter Try.func18, Try.ntmps18
    go_wp2_with (first | (go_at_call 34; refine (norm_any _ _).mono ?_; rintro e w' ⟨rfl, rfl⟩) | (go_at_call 36; refine (quarter_any _ _ (by omega) (by omega)).mono ?_; rintro e w' ⟨rfl, rfl⟩))
    go_ret
    exact ⟨ret_i64 hq.out.symm, rfl⟩
theorem cos_any (a : Int) (w : World) :
    Calls Try.prog 19 #[.int .i64 a] w fun e w' => e = .returned (.int .i64 (cn a)) ∧ w = w' := by
  go_enter Try.func19, Try.ntmps19
  go_wp2_with (first | (go_at_call 21; refine (turn_any _ _ _).mono ?_; rintro e w' ⟨rfl, rfl⟩) | (go_at_call 18; refine (sin_any _ _).mono ?_; rintro e w' ⟨rfl, rfl⟩))
  go_ret
  exact ⟨ret_i64 (by rw [sn_mod, cn_eq]), rfl⟩

end Go.Proofs.Ytpgpdglmgpjhlaa
