/- The laws of chapter 7 that need no closeness to the real functions: each call returns true. -/
import Derived.Test.YtdbklfledjaklaaTrigS
namespace Go.Proofs.Ytdbklfledjaklaa
open Go.RowKit Fdk
set_option linter.unusedVariables false

set_option maxHeartbeats 800000 in
theorem trigValues_walk (a : Int) (_ : -9223372036854775808 ≤ a ∧ a ≤ 9223372036854775807) (w : World) :
    Calls Try.prog 3 #[.int .i64 a] w fun e w' => e = .returned (.bool true) ∧ Below w.heap.size w w' := by
  go_enter Try.func3, Try.ntmps3
  go_wp2_with fail
  refine (awake_any _).mono ?_
  rintro e w1 ⟨rfl, hb1⟩
  go_wp2_with (first | (go_at_call 13; refine (sin_any _ _).mono ?_; rintro e w' ⟨rfl, rfl⟩) | (go_at_call 15; refine (cos_any _ _).mono ?_; rintro e w' ⟨rfl, rfl⟩) | (go_at_call 14; refine (rsin_any _ _).mono ?_; rintro e w' ⟨rfl, rfl⟩) | (go_at_call 16; refine (rcos_any _ _).mono ?_; rintro e w' ⟨rfl, rfl⟩))
  go_ret
  exact ⟨rfl, hb1⟩
set_option maxHeartbeats 800000 in
theorem trigSymmetric_walk (a : Int) (_ : -9223372036854775808 ≤ a ∧ a ≤ 9223372036854775807) (w : World) :
    Calls Try.prog 5 #[.int .i64 a] w fun e w' => e = .returned (.bool true) ∧ Below w.heap.size w w' := by
  have b0 : 0 ≤ a % 129600000 := by omega
  have b1 : a % 129600000 < 129600000 := by omega
  have ⟨s0, s1⟩ := sn_b (a % 129600000)
  have f1 : (sn a == sn (a % 129600000)) = true := by rw [beq_iff_eq, sn_mod]
  have f2 : (sn (-(a % 129600000)) == - sn (a % 129600000)) = true := by rw [beq_iff_eq, sn_neg]
  have f3 : (sn (64800000 - a % 129600000) == sn (a % 129600000)) = true := by rw [beq_iff_eq, sn_mirror]
  have f4 : (sn (a % 129600000 + 64800000) == - sn (a % 129600000)) = true := by rw [beq_iff_eq, sn_half]
  have f5 : (cn a == sn (a % 129600000 + 32400000)) = true := by rw [beq_iff_eq, sn_plus, cn_mod]
  have f6 : (cn (-(a % 129600000)) == cn a) = true := by rw [beq_iff_eq, cn_neg, cn_mod]
  go_enter Try.func5, Try.ntmps5
  go_wp2_with fail
  refine (awake_any _).mono ?_
  rintro e w1 ⟨rfl, hb1⟩
  go_wp2_with (first | (go_at_call 17; refine (norm_any _ _).mono ?_; rintro e w' ⟨rfl, rfl⟩) | (go_at_call 13; refine (sin_any _ _).mono ?_; rintro e w' ⟨rfl, rfl⟩) | (go_at_call 15; refine (cos_any _ _).mono ?_; rintro e w' ⟨rfl, rfl⟩))
  go_ret
  exact ⟨rfl, hb1⟩
theorem tmod_q (a : Int) : -32400000 ≤ a.tmod 32400001 ∧ a.tmod 32400001 ≤ 32400000 := by
  have h1 := Int.tmod_lt_of_pos a (by omega : (0 : Int) < 32400001)
  have h2 := Int.lt_tmod_of_pos a (by omega : (0 : Int) < 32400001)
  omega
set_option maxHeartbeats 800000 in
theorem trigRises_walk (a : Int) (_ : -9223372036854775808 ≤ a ∧ a ≤ 9223372036854775807) (b : Int) (_ : -9223372036854775808 ≤ b ∧ b ≤ 9223372036854775807) (w : World) :
    Calls Try.prog 7 #[.int .i64 a, .int .i64 b] w fun e w' => e = .returned (.bool true) ∧ Below w.heap.size w w' := by
  have ⟨a0, a1⟩ := tmod_q a
  have ⟨b0, b1⟩ := tmod_q b
  have l0 : -32400000 ≤ min (a.tmod 32400001) (b.tmod 32400001) := by omega
  have l1 : min (a.tmod 32400001) (b.tmod 32400001) ≤ max (a.tmod 32400001) (b.tmod 32400001) := by omega
  have l2 : max (a.tmod 32400001) (b.tmod 32400001) ≤ 32400000 := by omega
  have hm := sn_mono l0 l1 l2
  have hr : min (a.tmod 32400001) (b.tmod 32400001) = max (a.tmod 32400001) (b.tmod 32400001) ∨ min (a.tmod 32400001) (b.tmod 32400001) < -16200000 ∨ 16200000 < max (a.tmod 32400001) (b.tmod 32400001) ∨ sn (min (a.tmod 32400001) (b.tmod 32400001)) < sn (max (a.tmod 32400001) (b.tmod 32400001)) := by
    by_cases h1 : min (a.tmod 32400001) (b.tmod 32400001) = max (a.tmod 32400001) (b.tmod 32400001)
    · exact .inl h1
    · by_cases h2 : min (a.tmod 32400001) (b.tmod 32400001) < -16200000
      · exact .inr (.inl h2)
      · by_cases h3 : 16200000 < max (a.tmod 32400001) (b.tmod 32400001)
        · exact .inr (.inr (.inl h3))
        · have := sn_rise (a := min (a.tmod 32400001) (b.tmod 32400001)) (b := max (a.tmod 32400001) (b.tmod 32400001)) (by omega) (by omega) (by omega)
          exact .inr (.inr (.inr (by omega)))
  have hR := Lib.hid hr
  clear hr l0 l1 l2 a0 a1 b0 b1
  go_enter Try.func7, Try.ntmps7
  go_wp2_with fail
  refine (awake_any _).mono ?_
  rintro e w1 ⟨rfl, hb1⟩
  go_wp2_with fail
  have HM := Lib.hid hm
  clear hm
  generalize min (a.tmod 32400001) (b.tmod 32400001) = lo at *
  generalize max (a.tmod 32400001) (b.tmod 32400001) = hi at *
  have hm := HM.out
  have hd : decide (sn hi < sn lo) = false := by simp; omega
  rcases hR.out with h | h | h | h
  · have hb : (lo == hi) = true := by rw [beq_iff_eq]; exact h
    clear hR HM h
    refine (sin_any _ _).mono ?_
    rintro e w' ⟨rfl, rfl⟩
    go_wp2_with (first | (go_at_call 13; refine (sin_any _ _).mono ?_; rintro e w' ⟨rfl, rfl⟩))
    go_ret
    exact ⟨rfl, hb1⟩
  all_goals
    clear hR HM
    refine (sin_any _ _).mono ?_
    rintro e w' ⟨rfl, rfl⟩
    go_wp2_with (first | (go_at_call 13; refine (sin_any _ _).mono ?_; rintro e w' ⟨rfl, rfl⟩))
    all_goals
      go_ret
      exact ⟨rfl, hb1⟩
theorem tmod_e (a : Int) : -16200000 ≤ a.tmod 16200001 ∧ a.tmod 16200001 ≤ 16200000 := by
  have h1 := Int.tmod_lt_of_pos a (by omega : (0 : Int) < 16200001)
  have h2 := Int.lt_tmod_of_pos a (by omega : (0 : Int) < 16200001)
  omega
theorem tmod_m (a : Int) : -2147483647 ≤ a.tmod 2147483648 ∧ a.tmod 2147483648 ≤ 2147483647 := by
  have h1 := Int.tmod_lt_of_pos a (by omega : (0 : Int) < 2147483648)
  have h2 := Int.lt_tmod_of_pos a (by omega : (0 : Int) < 2147483648)
  omega
theorem sc_nz (c : Int) : ¬ (sn c = 0 ∧ cn c = 0) := by
  rw [← sn_mod, ← cn_mod]
  obtain ⟨b, hb, h⟩ := quad c
  rw [hb]
  intro ⟨h1, h2⟩
  have e := at2_sc b
  rw [h1, h2] at e
  have e2 := at2_sc (b + 64800000)
  rw [sn_half, cn_half, h1, h2] at e2
  have : at2 (-0) (-0) = at2 0 0 := rfl
  omega
set_option maxHeartbeats 800000 in
theorem trigInverse_walk (a : Int) (_ : -9223372036854775808 ≤ a ∧ a ≤ 9223372036854775807) (w : World) :
    Calls Try.prog 9 #[.int .i64 a] w fun e w' => e = .returned (.bool true) ∧ Below w.heap.size w w' := by
  have ⟨s0, s1⟩ := sn_b a
  have ⟨c0, c1⟩ := cn_b a
  have ⟨d0, d1⟩ := tmod_e a
  have ⟨t0, t1⟩ := sn_b (a.tmod 16200001)
  have HA := Lib.hid (at2_sc a)
  have HB := Lib.hid (asi_sc d0 d1)
  have HZ := Lib.hid (sc_nz a)
  go_enter Try.func9, Try.ntmps9
  go_wp2_with fail
  refine (awake_any _).mono ?_
  rintro e w1 ⟨rfl, hb1⟩
  go_wp2_with (first | (go_at_call 13; refine (sin_any _ _).mono ?_; rintro e w' ⟨rfl, rfl⟩) | (go_at_call 15; refine (cos_any _ _).mono ?_; rintro e w' ⟨rfl, rfl⟩))
  refine (at2_any _ _ _ (by omega) (by omega) (by omega) (by omega) HZ.out).mono ?_
  rintro e w2 ⟨rfl, hb2⟩
  rw [HA.out]
  go_wp2_with (first | (go_at_call 17; refine (norm_any _ _).mono ?_; rintro e w' ⟨rfl, rfl⟩) | (go_at_call 13; refine (sin_any _ _).mono ?_; rintro e w' ⟨rfl, rfl⟩))
  refine (asin_any _ _ _ (by omega) (by omega) (by omega) (by omega)).mono ?_
  rintro e w3 ⟨rfl, hb3⟩
  rw [HB.out]
  go_wp2
  go_ret
  have z1 := hb1.size
  have z2 := hb2.size
  exact ⟨rfl, hb1.trans ((hb2.mono (by omega)).trans (hb3.mono (by omega)))⟩
set_option maxHeartbeats 3200000 in
theorem trigArcs_walk (y : Int) (hy : -9223372036854775808 ≤ y ∧ y ≤ 9223372036854775807) (x : Int) (hx : -9223372036854775808 ≤ x ∧ x ≤ 9223372036854775807) (w : World) :
    Calls Try.prog 8 #[.int .i64 y, .int .i64 x] w fun e w' => e = .returned (.bool true) ∧ Below w.heap.size w w' := by
  have HA : Hid (∀ w, ∃ v k, (Calls Try.prog 20 #[.int .i64 y, .int .i64 x] w fun e w' => e = TwoInts v k ∧ Below w.heap.size w w') ∧ (∀ w, Calls Try.prog 21 #[.int .i64 y, .int .i64 x] w fun e w' => e = TwoInts v k ∧ w = w')) := by
    intro w
    by_cases h : (-2147483647 ≤ y ∧ y ≤ 2147483647) ∧ (-2147483647 ≤ x ∧ x ≤ 2147483647)
    · by_cases hz : y = 0 ∧ x = 0
      · obtain ⟨rfl, rfl⟩ := hz
        exact ⟨0, 1, (at2_zero w).mono fun _ _ ⟨h1, h2⟩ => ⟨h1, h2 ▸ Below.refl _ _⟩, fun w => rat2_zero w⟩
      · exact ⟨_, _, at2_any y x w h.1.1 h.1.2 h.2.1 h.2.2 hz, fun w => rat2_any y x w h.1.1 h.1.2 h.2.1 h.2.2 hz⟩
    · exact ⟨0, 2, (at2_out y x w h).mono fun _ _ ⟨h1, h2⟩ => ⟨h1, h2 ▸ Below.refl _ _⟩, fun w => rat2_out y x w h⟩
  have HB : Hid (∀ w, ∃ v k, (Calls Try.prog 22 #[.int .i64 y, .int .i64 x] w fun e w' => e = TwoInts v k ∧ Below w.heap.size w w') ∧ (∀ w, Calls Try.prog 23 #[.int .i64 y, .int .i64 x] w fun e w' => e = TwoInts v k ∧ w = w')) := by
    intro w
    by_cases h1 : x < 1
    · exact ⟨0, 1, asin_arg y x w h1, fun w => rasin_arg y x w h1⟩
    · by_cases h : x ≤ 2147483647 ∧ y ≤ x ∧ -x ≤ y
      · exact ⟨_, _, asin_any y x w h.2.2 h.2.1 (by omega) h.1, fun w => rasin_any y x w h.2.2 h.2.1 (by omega) h.1⟩
      · exact ⟨0, 2, asin_range y x w (by omega) hx.2 h, fun w => rasin_range y x w (by omega) hx.2 h⟩
  have HC : Hid (∃ v k, (∀ w, Calls Try.prog 24 #[.int .i64 x, .int .i64 y] w fun e w' => e = TwoInts v k ∧ w = w') ∧ (∀ w, Calls Try.prog 25 #[.int .i64 x, .int .i64 y] w fun e w' => e = TwoInts v k ∧ w = w')) := by
    by_cases h : (-2147483647 ≤ y ∧ y ≤ 2147483647) ∧ (-2147483647 ≤ x ∧ x ≤ 2147483647)
    · exact ⟨_, _, fun w => hyp_any x y w h.1.1 h.1.2 h.2.1 h.2.2, fun w => rhyp_any x y w h.1.1 h.1.2 h.2.1 h.2.2⟩
    · exact ⟨_, _, fun w => hyp_out x y w h, fun w => rhyp_out x y w h⟩
  clear hy hx
  go_enter Try.func8, Try.ntmps8
  go_wp2_with fail
  refine (awake_any _).mono ?_
  rintro e w1 ⟨rfl, hb1⟩
  go_wp2_with fail
  obtain ⟨v, k, hp, hr⟩ := HA.out w1
  refine hp.mono ?_
  rintro e w2 ⟨rfl, hb2⟩
  have HR := Lib.hid hr
  clear hp hr
  go_wp2_with fail
  refine (HR.out _).mono ?_
  rintro e w' ⟨rfl, rfl⟩
  go_wp2_with fail
  obtain ⟨v2, k2, hp, hr⟩ := HB.out w2
  refine hp.mono ?_
  rintro e w3 ⟨rfl, hb3⟩
  have HR2 := Lib.hid hr
  clear hp hr
  go_wp2_with fail
  refine (HR2.out _).mono ?_
  rintro e w' ⟨rfl, rfl⟩
  go_wp2_with fail
  obtain ⟨v3, k3, hp, hr⟩ := HC.out
  refine (hp _).mono ?_
  rintro e w' ⟨rfl, rfl⟩
  have HR3 := Lib.hid hr
  clear hp hr
  go_wp2_with fail
  refine (HR3.out _).mono ?_
  rintro e w' ⟨rfl, rfl⟩
  go_wp2
  go_ret
  have z1 := hb1.size
  have z2 := hb2.size
  exact ⟨rfl, hb1.trans ((hb2.mono (by omega)).trans (hb3.mono (by omega)))⟩
end Go.Proofs.Ytdbklfledjaklaa
