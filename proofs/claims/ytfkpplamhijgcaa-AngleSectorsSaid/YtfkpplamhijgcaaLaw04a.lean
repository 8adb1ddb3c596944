/- The laws of chapter 4 on whole numbers: each call returns true. -/
import Derived.Test.YtfkpplamhijgcaaAwake04
namespace Go.Proofs.Ytfkpplamhijgcaa
open Go.RowKit
set_option linter.unusedVariables false

set_option maxHeartbeats 800000 in
theorem angleNorms_walk (a : Int) (_ : -9223372036854775808 ≤ a ∧ a ≤ 9223372036854775807) (b : Int) (_ : -9223372036854775808 ≤ b ∧ b ≤ 9223372036854775807) (w : World) :
    Calls Try.prog 4 #[.int .i64 a, .int .i64 b] w fun e w' => e = .returned (.bool true) ∧ Below w.heap.size w w' := by
  go_enter Try.func4, Try.ntmps4
  go_wp2_with fail
  refine (awake_any _).mono ?_
  rintro e w1 ⟨rfl, hb1⟩
  go_wp2_with (first | (go_at_call 14; refine (norm_any _ _).mono ?_; rintro e w' ⟨rfl, rfl⟩) | (go_at_call 15; refine (rnorm_any _ _).mono ?_; rintro e w' ⟨rfl, rfl⟩) | (go_at_call 16; refine (turn_any _ _ _).mono ?_; rintro e w' ⟨rfl, rfl⟩) | (go_at_call 17; refine (rturn_any _ _ _).mono ?_; rintro e w' ⟨rfl, rfl⟩) | (go_at_call 18; refine (opp_any _ _).mono ?_; rintro e w' ⟨rfl, rfl⟩) | (go_at_call 19; refine (ropp_any _ _).mono ?_; rintro e w' ⟨rfl, rfl⟩))
  go_ret
  exact ⟨rfl, hb1⟩
set_option maxHeartbeats 800000 in
theorem angleDiffs_walk (a : Int) (_ : -9223372036854775808 ≤ a ∧ a ≤ 9223372036854775807) (b : Int) (_ : -9223372036854775808 ≤ b ∧ b ≤ 9223372036854775807) (w : World) :
    Calls Try.prog 5 #[.int .i64 a, .int .i64 b] w fun e w' => e = .returned (.bool true) ∧ Below w.heap.size w w' := by
  have ⟨h0, h1⟩ := adiff_b a b
  have h2 : ((a + adiff a b) % 129600000 == b % 129600000) = true := by rw [beq_iff_eq]; unfold adiff; split <;> omega
  go_enter Try.func5, Try.ntmps5
  go_wp2_with (first | (go_at_call 13; refine (diff_any _ _ _).mono ?_; rintro e w' ⟨rfl, rfl⟩))
  refine (awake_any _).mono ?_
  rintro e w1 ⟨rfl, hb1⟩
  go_wp2_with (first | (go_at_call 14; refine (norm_any _ _).mono ?_; rintro e w' ⟨rfl, rfl⟩) | (go_at_call 20; refine (rdiff_any _ _ _).mono ?_; rintro e w' ⟨rfl, rfl⟩) | (go_at_call 16; refine (turn_any _ _ _).mono ?_; rintro e w' ⟨rfl, rfl⟩) | (go_at_call 21; refine (mid_any _ _ _).mono ?_; rintro e w' ⟨rfl, rfl⟩) | (go_at_call 22; refine (rmid_any _ _ _).mono ?_; rintro e w' ⟨rfl, rfl⟩))
  go_ret
  exact ⟨rfl, hb1⟩
set_option maxHeartbeats 800000 in
theorem angleSweeps_walk (a : Int) (_ : -9223372036854775808 ≤ a ∧ a ≤ 9223372036854775807) (b : Int) (_ : -9223372036854775808 ≤ b ∧ b ≤ 9223372036854775807) (k : Int) (hk : 0 ≤ k ∧ k ≤ 255) (w : World) :
    Calls Try.prog 6 #[.int .i64 a, .int .i64 b, .int .u8 k] w fun e w' => e = .returned (.bool true) ∧ Below w.heap.size w w' := by
  have ⟨h0, h1⟩ := aswp_b a b 2
  have ⟨g0, g1⟩ := aswp_b a b 1
  by_cases hz : aswp a b 2 = 0
  · have e2 : (aswp a b 2 == 0) = true := by rw [beq_iff_eq]; exact hz
    have e1 : (aswp a b 1 == 0) = true := by rw [beq_iff_eq]; unfold aswp at *; simp at *; omega
    have e3 : (a % 129600000 == b % 129600000) = true := by rw [beq_iff_eq]; unfold aswp at hz; simp at hz; omega
    clear hz
    go_enter Try.func6, Try.ntmps6
    go_wp2_with fail
    refine (awake_any _).mono ?_
    rintro e w1 ⟨rfl, hb1⟩
    go_wp2_with (first | (go_at_call 14; refine (norm_any _ _).mono ?_; rintro e w' ⟨rfl, rfl⟩) | (go_at_call 23; refine (swp_any _ _ _ _ (by omega) (by omega)).mono ?_; rintro e w' ⟨rfl, rfl⟩) | (go_at_call 24; refine (rswp_any _ _ _ _ (by omega) (by omega)).mono ?_; rintro e w' ⟨rfl, rfl⟩))
    go_ret
    exact ⟨rfl, hb1⟩
  · have e2 : (aswp a b 2 == 0) = false := by rw [beq_eq_false_iff_ne]; exact hz
    have e1 : (aswp a b 1 == 0) = false := by rw [beq_eq_false_iff_ne]; unfold aswp at *; simp at *; omega
    have e3 : (aswp a b 2 + aswp a b 1 == 129600000) = true := by rw [beq_iff_eq]; unfold aswp at *; simp at *; omega
    have e4 : ((a + aswp a b 2) % 129600000 == b % 129600000) = true := by rw [beq_iff_eq]; unfold aswp at *; simp at *; omega
    have e5 : ((b + aswp a b 1) % 129600000 == a % 129600000) = true := by rw [beq_iff_eq]; unfold aswp at *; simp at *; omega
    clear hz
    go_enter Try.func6, Try.ntmps6
    go_wp2_with fail
    refine (awake_any _).mono ?_
    rintro e w1 ⟨rfl, hb1⟩
    go_wp2_with (first | (go_at_call 14; refine (norm_any _ _).mono ?_; rintro e w' ⟨rfl, rfl⟩) | (go_at_call 16; refine (turn_any _ _ _).mono ?_; rintro e w' ⟨rfl, rfl⟩) | (go_at_call 23; refine (swp_any _ _ _ _ (by omega) (by omega)).mono ?_; rintro e w' ⟨rfl, rfl⟩) | (go_at_call 24; refine (rswp_any _ _ _ _ (by omega) (by omega)).mono ?_; rintro e w' ⟨rfl, rfl⟩))
    go_ret
    exact ⟨rfl, hb1⟩
theorem awi_pos (a f s : Int) (h : 0 ≤ s) : awi a f s = decide ((a - f) % 129600000 ≤ s) := by
  unfold awi aswp; rw [if_pos h, if_pos rfl]
theorem awi_neg (a f s : Int) (h : s < 0) : awi a f s = decide (s ≤ - ((f - a) % 129600000)) := by
  unfold awi aswp; rw [if_neg (by omega), if_neg (by omega), if_pos rfl]
theorem awi_all (a f s : Int) (h : 129600000 ≤ s) : awi a f s = true := by rw [awi_pos _ _ _ (by omega)]; simp; omega
theorem awi_swap (a f s : Int) (h0 : 0 < s) (h1 : s < 129600000) : awi a f s = awi a ((f + s) % 129600000) (-s) := by
  rw [awi_pos _ _ _ (by omega), awi_neg _ _ _ (by omega), decide_eq_decide]
  omega
theorem awi_from (f s : Int) (h0 : 0 < s) : awi f f s = true := by rw [awi_pos _ _ _ (by omega)]; simp; omega
theorem awi_to (f s : Int) (h0 : 0 < s) (h1 : s < 129600000) : awi ((f + s) % 129600000) f s = true := by rw [awi_pos _ _ _ (by omega)]; simp; omega
set_option maxHeartbeats 800000 in
theorem angleSectors_walk (a : Int) (_ : -9223372036854775808 ≤ a ∧ a ≤ 9223372036854775807) (f : Int) (_ : -9223372036854775808 ≤ f ∧ f ≤ 9223372036854775807) (s : Int) (_ : -9223372036854775808 ≤ s ∧ s ≤ 9223372036854775807) (w : World) :
    Calls Try.prog 7 #[.int .i64 a, .int .i64 f, .int .i64 s] w fun e w' => e = .returned (.bool true) ∧ Below w.heap.size w w' := by
  by_cases h0 : s ≤ 0
  · go_enter Try.func7, Try.ntmps7
    go_wp2_with fail
    refine (awake_any _).mono ?_
    rintro e w1 ⟨rfl, hb1⟩
    go_wp2_with (first | (go_at_call 25; refine (wi_any _ _ _ _).mono ?_; rintro e w' ⟨rfl, rfl⟩) | (go_at_call 26; refine (rwi_any _ _ _ _).mono ?_; rintro e w' ⟨rfl, rfl⟩))
    go_ret
    exact ⟨rfl, hb1⟩
  by_cases h1 : 129600000 ≤ s
  · have e1 := awi_all a f s h1
    go_enter Try.func7, Try.ntmps7
    go_wp2_with fail
    refine (awake_any _).mono ?_
    rintro e w1 ⟨rfl, hb1⟩
    go_wp2_with (first | (go_at_call 25; refine (wi_any _ _ _ _).mono ?_; rintro e w' ⟨rfl, rfl⟩) | (go_at_call 26; refine (rwi_any _ _ _ _).mono ?_; rintro e w' ⟨rfl, rfl⟩))
    go_ret
    exact ⟨rfl, hb1⟩
  · have e1 := awi_swap a f s (by omega) (by omega)
    have e2 := awi_from f s (by omega)
    have e3 := awi_to f s (by omega) (by omega)
    have e4 : (awi a ((f + s) % 129600000) (-s) == awi a ((f + s) % 129600000) (-s)) = true := by simp
    go_enter Try.func7, Try.ntmps7
    go_wp2_with fail
    refine (awake_any _).mono ?_
    rintro e w1 ⟨rfl, hb1⟩
    go_wp2_with (first | (go_at_call 25; refine (wi_any _ _ _ _).mono ?_; rintro e w' ⟨rfl, rfl⟩) | (go_at_call 26; refine (rwi_any _ _ _ _).mono ?_; rintro e w' ⟨rfl, rfl⟩) | (go_at_call 16; refine (turn_any _ _ _).mono ?_; rintro e w' ⟨rfl, rfl⟩))
    go_ret
    exact ⟨rfl, hb1⟩
theorem ad_norm (a b c : Int) : (adiff a b + adiff b c) % 129600000 = adiff a c % 129600000 := by unfold adiff; split <;> split <;> split <;> omega
theorem ad_tri (a b c X Y : Int) (hX : X = adiff a b ∨ X = - adiff a b) (hX0 : 0 ≤ X) (hY : Y = adiff b c ∨ Y = - adiff b c) (hY0 : 0 ≤ Y) : adiff a c ≤ X + Y ∧ - adiff a c ≤ X + Y := by
  have h := ad_norm a b c
  have := adiff_b a b; have := adiff_b b c; have := adiff_b a c
  generalize adiff a b = x at *
  generalize adiff b c = y at *
  generalize adiff a c = z at *
  rcases hX with rfl | rfl <;> rcases hY with rfl | rfl <;> omega
theorem ad_back (a b : Int) : adiff b a = - adiff a b ∨ (adiff b a = 64800000 ∧ adiff a b = 64800000) := by unfold adiff; split <;> split <;> omega
set_option maxHeartbeats 1600000 in
theorem angleTriangle_walk (a : Int) (_ : -9223372036854775808 ≤ a ∧ a ≤ 9223372036854775807) (b : Int) (_ : -9223372036854775808 ≤ b ∧ b ≤ 9223372036854775807) (c : Int) (_ : -9223372036854775808 ≤ c ∧ c ≤ 9223372036854775807) (w : World) :
    Calls Try.prog 3 #[.int .i64 a, .int .i64 b, .int .i64 c] w fun e w' => e = .returned (.bool true) ∧ Below w.heap.size w w' := by
  have e1 : ((adiff a b + adiff b c) % 129600000 != adiff a c % 129600000) = false := by rw [bne_eq_false_iff_eq]; exact ad_norm a b c
  have ⟨x0, x1⟩ := adiff_b a b
  have ⟨y0, y1⟩ := adiff_b b c
  have ⟨z0, z1⟩ := adiff_b a c
  have ⟨k0, k1⟩ := adiff_b b a
  have hk : (adiff b a == - adiff a b) = true ∨ ((adiff b a == - adiff a b) = false ∧ (adiff b a == 64800000) = true ∧ (adiff a b == 64800000) = true ∧ 0 ≤ adiff a b) := by
    rcases ad_back a b with h | ⟨h, h2⟩
    · exact .inl (by rw [beq_iff_eq]; exact h)
    · exact .inr ⟨by rw [beq_eq_false_iff_ne]; omega, by rw [beq_iff_eq]; exact h, by rw [beq_iff_eq]; exact h2, by omega⟩
  have t0 := ad_tri a b c
  by_cases hx : adiff a b < 0
  all_goals
    by_cases hy : adiff b c < 0
    all_goals
      have t : adiff a c ≤ (if adiff a b < 0 then - adiff a b else adiff a b) + (if adiff b c < 0 then - adiff b c else adiff b c) ∧ - adiff a c ≤ (if adiff a b < 0 then - adiff a b else adiff a b) + (if adiff b c < 0 then - adiff b c else adiff b c) := t0 _ _ (by split <;> simp) (by split <;> omega) (by split <;> simp) (by split <;> omega)
      first | rw [if_pos hx] at t | rw [if_neg hx] at t
      first | rw [if_pos hy] at t | rw [if_neg hy] at t
      obtain ⟨t1, t2⟩ := t
      by_cases hz : adiff a c < 0
      all_goals
        rcases hk with hk | ⟨hk, hk2, hk3, hk4⟩
        all_goals first
          | (exfalso; omega)
          | (clear t0
             go_enter Try.func3, Try.ntmps3
             go_wp2_with fail
             refine (awake_any _).mono ?_
             rintro e w1 ⟨rfl, hb1⟩
             go_wp2_with (first | (go_at_call 14; refine (norm_any _ _).mono ?_; rintro e w' ⟨rfl, rfl⟩) | (go_at_call 13; refine (diff_any _ _ _).mono ?_; rintro e w' ⟨rfl, rfl⟩))
             go_ret
             exact ⟨rfl, hb1⟩)
end Go.Proofs.Ytfkpplamhijgcaa
