/- How a pattern is entered: both sides. -/
import Derived.Test.YtgabdnabcpdinaaAngle
import Derived.Test.YtgabdnabcpdinaaSphA
namespace Go.Proofs.Ytgabdnabcpdinaa
open Go.RowKit Go.Joins Fdk
set_option linter.unusedVariables false
def hout (i : Int) : Int := (i % 129600000 + 64800000) % 129600000
def hew (c i k : Int) : Int := if k = 2 then (hout i - c % 129600000) % 129600000 else (c % 129600000 - hout i) % 129600000
def hent (c i k : Int) : Int := if k = 1 ∨ k = 2 then (if hew c i k < 25200000 then 3 else if hew c i k ≥ 90000000 then 2 else 1) else 0
theorem ret_u8 {a b : Int} (h : a = b) : Ending.returned (.int .u8 a) = .returned (.int .u8 b) := by rw [h]
set_option maxHeartbeats 4000000 in
theorem hentry_10 (c i : Int) (w : World) (h1 : hew c i 1 < 25200000) :
    Calls Try.prog 11 #[.int .i64 c, .int .i64 i, .int .u8 1] w fun e w' => e = .returned (.int .u8 3) ∧ w = w' := by
  have e0 : 0 ≤ c % 129600000 ∧ c % 129600000 < 129600000 := by omega
  have e1 : 0 ≤ i % 129600000 ∧ i % 129600000 < 129600000 := by omega
  have e2 : 0 ≤ (i % 129600000 + 64800000) % 129600000 ∧ (i % 129600000 + 64800000) % 129600000 < 129600000 := by omega
  simp only [hew, hout, show ¬ ((1 : Int) = 2) from by decide, if_false] at *
  go_enter Try.func11, Try.ntmps11
  go_wp2_with (go_at_call 13; refine (norm_any _ _).mono ?_; rintro e w' ⟨rfl, rfl⟩)
  go_ret
  exact ⟨rfl, rfl⟩
set_option maxHeartbeats 4000000 in
theorem hentry_11 (c i : Int) (w : World) (h1 : ¬ hew c i 1 < 25200000) (h2 : hew c i 1 ≥ 90000000) :
    Calls Try.prog 11 #[.int .i64 c, .int .i64 i, .int .u8 1] w fun e w' => e = .returned (.int .u8 2) ∧ w = w' := by
  have e0 : 0 ≤ c % 129600000 ∧ c % 129600000 < 129600000 := by omega
  have e1 : 0 ≤ i % 129600000 ∧ i % 129600000 < 129600000 := by omega
  have e2 : 0 ≤ (i % 129600000 + 64800000) % 129600000 ∧ (i % 129600000 + 64800000) % 129600000 < 129600000 := by omega
  simp only [hew, hout, show ¬ ((1 : Int) = 2) from by decide, if_false] at *
  go_enter Try.func11, Try.ntmps11
  go_wp2_with (go_at_call 13; refine (norm_any _ _).mono ?_; rintro e w' ⟨rfl, rfl⟩)
  go_ret
  exact ⟨rfl, rfl⟩
set_option maxHeartbeats 4000000 in
theorem hentry_12 (c i : Int) (w : World) (h1 : ¬ hew c i 1 < 25200000) (h2 : ¬ hew c i 1 ≥ 90000000) :
    Calls Try.prog 11 #[.int .i64 c, .int .i64 i, .int .u8 1] w fun e w' => e = .returned (.int .u8 1) ∧ w = w' := by
  have e0 : 0 ≤ c % 129600000 ∧ c % 129600000 < 129600000 := by omega
  have e1 : 0 ≤ i % 129600000 ∧ i % 129600000 < 129600000 := by omega
  have e2 : 0 ≤ (i % 129600000 + 64800000) % 129600000 ∧ (i % 129600000 + 64800000) % 129600000 < 129600000 := by omega
  simp only [hew, hout, show ¬ ((1 : Int) = 2) from by decide, if_false] at *
  go_enter Try.func11, Try.ntmps11
  go_wp2_with (go_at_call 13; refine (norm_any _ _).mono ?_; rintro e w' ⟨rfl, rfl⟩)
  go_ret
  exact ⟨rfl, rfl⟩
set_option maxHeartbeats 4000000 in
theorem hentry_20 (c i : Int) (w : World) (h1 : hew c i 2 < 25200000) :
    Calls Try.prog 11 #[.int .i64 c, .int .i64 i, .int .u8 2] w fun e w' => e = .returned (.int .u8 3) ∧ w = w' := by
  have e0 : 0 ≤ c % 129600000 ∧ c % 129600000 < 129600000 := by omega
  have e1 : 0 ≤ i % 129600000 ∧ i % 129600000 < 129600000 := by omega
  have e2 : 0 ≤ (i % 129600000 + 64800000) % 129600000 ∧ (i % 129600000 + 64800000) % 129600000 < 129600000 := by omega
  simp only [hew, hout, if_pos] at *
  go_enter Try.func11, Try.ntmps11
  go_wp2_with (go_at_call 13; refine (norm_any _ _).mono ?_; rintro e w' ⟨rfl, rfl⟩)
  go_ret
  exact ⟨rfl, rfl⟩
set_option maxHeartbeats 4000000 in
theorem hentry_21 (c i : Int) (w : World) (h1 : ¬ hew c i 2 < 25200000) (h2 : hew c i 2 ≥ 90000000) :
    Calls Try.prog 11 #[.int .i64 c, .int .i64 i, .int .u8 2] w fun e w' => e = .returned (.int .u8 2) ∧ w = w' := by
  have e0 : 0 ≤ c % 129600000 ∧ c % 129600000 < 129600000 := by omega
  have e1 : 0 ≤ i % 129600000 ∧ i % 129600000 < 129600000 := by omega
  have e2 : 0 ≤ (i % 129600000 + 64800000) % 129600000 ∧ (i % 129600000 + 64800000) % 129600000 < 129600000 := by omega
  simp only [hew, hout, if_pos] at *
  go_enter Try.func11, Try.ntmps11
  go_wp2_with (go_at_call 13; refine (norm_any _ _).mono ?_; rintro e w' ⟨rfl, rfl⟩)
  go_ret
  exact ⟨rfl, rfl⟩
set_option maxHeartbeats 4000000 in
theorem hentry_22 (c i : Int) (w : World) (h1 : ¬ hew c i 2 < 25200000) (h2 : ¬ hew c i 2 ≥ 90000000) :
    Calls Try.prog 11 #[.int .i64 c, .int .i64 i, .int .u8 2] w fun e w' => e = .returned (.int .u8 1) ∧ w = w' := by
  have e0 : 0 ≤ c % 129600000 ∧ c % 129600000 < 129600000 := by omega
  have e1 : 0 ≤ i % 129600000 ∧ i % 129600000 < 129600000 := by omega
  have e2 : 0 ≤ (i % 129600000 + 64800000) % 129600000 ∧ (i % 129600000 + 64800000) % 129600000 < 129600000 := by omega
  simp only [hew, hout, if_pos] at *
  go_enter Try.func11, Try.ntmps11
  go_wp2_with (go_at_call 13; refine (norm_any _ _).mono ?_; rintro e w' ⟨rfl, rfl⟩)
  go_ret
  exact ⟨rfl, rfl⟩
set_option maxHeartbeats 4000000 in
theorem hentry_0 (c i k : Int) (w : World) (h1 : ¬ k = 1) (h2 : ¬ k = 2) :
    Calls Try.prog 11 #[.int .i64 c, .int .i64 i, .int .u8 k] w fun e w' => e = .returned (.int .u8 0) ∧ w = w' := by
  have e0 : 0 ≤ c % 129600000 ∧ c % 129600000 < 129600000 := by omega
  have e1 : 0 ≤ i % 129600000 ∧ i % 129600000 < 129600000 := by omega
  go_enter Try.func11, Try.ntmps11
  go_wp2_with (go_at_call 13; refine (norm_any _ _).mono ?_; rintro e w' ⟨rfl, rfl⟩)
  go_ret
  exact ⟨rfl, rfl⟩
theorem hentry_any (c i k : Int) (w : World) :
    Calls Try.prog 11 #[.int .i64 c, .int .i64 i, .int .u8 k] w fun e w' => e = .returned (.int .u8 (hent c i k)) ∧ w = w' := by
  unfold hent
  by_cases k1 : k = 1
  · subst k1
    rw [if_pos (.inl rfl)]
    split
    · next h => exact hentry_10 c i w h
    · next h =>
      split
      · next g => exact hentry_11 c i w h g
      · next g => exact hentry_12 c i w h g
  by_cases k2 : k = 2
  · subst k2
    rw [if_pos (.inr rfl)]
    split
    · next h => exact hentry_20 c i w h
    · next h =>
      split
      · next g => exact hentry_21 c i w h g
      · next g => exact hentry_22 c i w h g
  rw [if_neg (by omega)]
  exact hentry_0 c i k w k1 k2
set_option maxHeartbeats 4000000 in
theorem rentry_10 (c i : Int) (w : World) (h1 : hew c i 1 < 25200000) :
    Calls Try.prog 12 #[.int .i64 c, .int .i64 i, .int .u8 1] w fun e w' => e = .returned (.int .u8 3) ∧ w = w' := by
  have e0 : 0 ≤ c % 129600000 ∧ c % 129600000 < 129600000 := by omega
  have e1 : 0 ≤ i % 129600000 ∧ i % 129600000 < 129600000 := by omega
  have e2 : 0 ≤ (i % 129600000 + 64800000) % 129600000 ∧ (i % 129600000 + 64800000) % 129600000 < 129600000 := by omega
  simp only [hew, hout, show ¬ ((1 : Int) = 2) from by decide, if_false] at *
  go_enter Try.func12, Try.ntmps12
  go_wp2_with (go_at_call 22; refine (rnorm_any _ _).mono ?_; rintro e w' ⟨rfl, rfl⟩)
  go_ret
  exact ⟨rfl, rfl⟩
set_option maxHeartbeats 4000000 in
theorem rentry_11 (c i : Int) (w : World) (h1 : ¬ hew c i 1 < 25200000) (h2 : hew c i 1 ≥ 90000000) :
    Calls Try.prog 12 #[.int .i64 c, .int .i64 i, .int .u8 1] w fun e w' => e = .returned (.int .u8 2) ∧ w = w' := by
  have e0 : 0 ≤ c % 129600000 ∧ c % 129600000 < 129600000 := by omega
  have e1 : 0 ≤ i % 129600000 ∧ i % 129600000 < 129600000 := by omega
  have e2 : 0 ≤ (i % 129600000 + 64800000) % 129600000 ∧ (i % 129600000 + 64800000) % 129600000 < 129600000 := by omega
  simp only [hew, hout, show ¬ ((1 : Int) = 2) from by decide, if_false] at *
  go_enter Try.func12, Try.ntmps12
  go_wp2_with (go_at_call 22; refine (rnorm_any _ _).mono ?_; rintro e w' ⟨rfl, rfl⟩)
  go_ret
  exact ⟨rfl, rfl⟩
set_option maxHeartbeats 4000000 in
theorem rentry_12 (c i : Int) (w : World) (h1 : ¬ hew c i 1 < 25200000) (h2 : ¬ hew c i 1 ≥ 90000000) :
    Calls Try.prog 12 #[.int .i64 c, .int .i64 i, .int .u8 1] w fun e w' => e = .returned (.int .u8 1) ∧ w = w' := by
  have e0 : 0 ≤ c % 129600000 ∧ c % 129600000 < 129600000 := by omega
  have e1 : 0 ≤ i % 129600000 ∧ i % 129600000 < 129600000 := by omega
  have e2 : 0 ≤ (i % 129600000 + 64800000) % 129600000 ∧ (i % 129600000 + 64800000) % 129600000 < 129600000 := by omega
  simp only [hew, hout, show ¬ ((1 : Int) = 2) from by decide, if_false] at *
  go_enter Try.func12, Try.ntmps12
  go_wp2_with (go_at_call 22; refine (rnorm_any _ _).mono ?_; rintro e w' ⟨rfl, rfl⟩)
  go_ret
  exact ⟨rfl, rfl⟩
set_option maxHeartbeats 4000000 in
theorem rentry_20 (c i : Int) (w : World) (h1 : hew c i 2 < 25200000) :
    Calls Try.prog 12 #[.int .i64 c, .int .i64 i, .int .u8 2] w fun e w' => e = .returned (.int .u8 3) ∧ w = w' := by
  have e0 : 0 ≤ c % 129600000 ∧ c % 129600000 < 129600000 := by omega
  have e1 : 0 ≤ i % 129600000 ∧ i % 129600000 < 129600000 := by omega
  have e2 : 0 ≤ (i % 129600000 + 64800000) % 129600000 ∧ (i % 129600000 + 64800000) % 129600000 < 129600000 := by omega
  simp only [hew, hout, if_pos] at *
  go_enter Try.func12, Try.ntmps12
  go_wp2_with (go_at_call 22; refine (rnorm_any _ _).mono ?_; rintro e w' ⟨rfl, rfl⟩)
  go_ret
  exact ⟨rfl, rfl⟩
set_option maxHeartbeats 4000000 in
theorem rentry_21 (c i : Int) (w : World) (h1 : ¬ hew c i 2 < 25200000) (h2 : hew c i 2 ≥ 90000000) :
    Calls Try.prog 12 #[.int .i64 c, .int .i64 i, .int .u8 2] w fun e w' => e = .returned (.int .u8 2) ∧ w = w' := by
  have e0 : 0 ≤ c % 129600000 ∧ c % 129600000 < 129600000 := by omega
  have e1 : 0 ≤ i % 129600000 ∧ i % 129600000 < 129600000 := by omega
  have e2 : 0 ≤ (i % 129600000 + 64800000) % 129600000 ∧ (i % 129600000 + 64800000) % 129600000 < 129600000 := by omega
  simp only [hew, hout, if_pos] at *
  go_enter Try.func12, Try.ntmps12
  go_wp2_with (go_at_call 22; refine (rnorm_any _ _).mono ?_; rintro e w' ⟨rfl, rfl⟩)
  go_ret
  exact ⟨rfl, rfl⟩
set_option maxHeartbeats 4000000 in
theorem rentry_22 (c i : Int) (w : World) (h1 : ¬ hew c i 2 < 25200000) (h2 : ¬ hew c i 2 ≥ 90000000) :
    Calls Try.prog 12 #[.int .i64 c, .int .i64 i, .int .u8 2] w fun e w' => e = .returned (.int .u8 1) ∧ w = w' := by
  have e0 : 0 ≤ c % 129600000 ∧ c % 129600000 < 129600000 := by omega
  have e1 : 0 ≤ i % 129600000 ∧ i % 129600000 < 129600000 := by omega
  have e2 : 0 ≤ (i % 129600000 + 64800000) % 129600000 ∧ (i % 129600000 + 64800000) % 129600000 < 129600000 := by omega
  simp only [hew, hout, if_pos] at *
  go_enter Try.func12, Try.ntmps12
  go_wp2_with (go_at_call 22; refine (rnorm_any _ _).mono ?_; rintro e w' ⟨rfl, rfl⟩)
  go_ret
  exact ⟨rfl, rfl⟩
set_option maxHeartbeats 4000000 in
theorem rentry_0 (c i k : Int) (w : World) (h1 : ¬ k = 1) (h2 : ¬ k = 2) :
    Calls Try.prog 12 #[.int .i64 c, .int .i64 i, .int .u8 k] w fun e w' => e = .returned (.int .u8 0) ∧ w = w' := by
  have e0 : 0 ≤ c % 129600000 ∧ c % 129600000 < 129600000 := by omega
  have e1 : 0 ≤ i % 129600000 ∧ i % 129600000 < 129600000 := by omega
  go_enter Try.func12, Try.ntmps12
  go_wp2_with (go_at_call 22; refine (rnorm_any _ _).mono ?_; rintro e w' ⟨rfl, rfl⟩)
  go_ret
  exact ⟨rfl, rfl⟩
theorem rentry_any (c i k : Int) (w : World) :
    Calls Try.prog 12 #[.int .i64 c, .int .i64 i, .int .u8 k] w fun e w' => e = .returned (.int .u8 (hent c i k)) ∧ w = w' := by
  unfold hent
  by_cases k1 : k = 1
  · subst k1
    rw [if_pos (.inl rfl)]
    split
    · next h => exact rentry_10 c i w h
    · next h =>
      split
      · next g => exact rentry_11 c i w h g
      · next g => exact rentry_12 c i w h g
  by_cases k2 : k = 2
  · subst k2
    rw [if_pos (.inr rfl)]
    split
    · next h => exact rentry_20 c i w h
    · next h =>
      split
      · next g => exact rentry_21 c i w h g
      · next g => exact rentry_22 c i w h g
  rw [if_neg (by omega)]
  exact rentry_0 c i k w k1 k2
end Go.Proofs.Ytgabdnabcpdinaa
