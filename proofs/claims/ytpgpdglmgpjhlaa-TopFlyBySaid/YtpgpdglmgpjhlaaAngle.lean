/- The contracts of package angle and of its reference, for whole numbers: what each call returns. -/
import Derived.Test.YtpgpdglmgpjhlaaChecked
import Derived.WalkKit
import Derived.WalkSpells
import Derived.WalkLawsBesides
import Derived.Lib.Hide
namespace Go.Proofs.Ytpgpdglmgpjhlaa
open Go.RowKit

theorem ret_i64 {a b : Int} (h : a = b) : Ending.returned (.int .i64 a) = .returned (.int .i64 b) := by rw [h]
theorem ret_bool {a b : Bool} (h : a = b) : Ending.returned (.bool a) = .returned (.bool b) := by rw [h]
theorem tmod_c (a : Int) : -129600000 < a.tmod 129600000 ∧ a.tmod 129600000 < 129600000 ∧ (a.tmod 129600000 < 0 → a.tmod 129600000 + 129600000 = a % 129600000) ∧ (¬ a.tmod 129600000 < 0 → a.tmod 129600000 = a % 129600000) := by
  by_cases h : 0 ≤ a
  · rw [Int.tmod_eq_emod_of_nonneg h]; omega
  · have e : a.tmod 129600000 = -((-a) % 129600000) := by
      rw [← Int.tmod_eq_emod_of_nonneg (by omega), Int.neg_tmod, Int.neg_neg]
    rw [e]; omega

theorem half_c (d : Int) : (-64800000 ≤ d → d ≤ 64800000 → -32400000 ≤ d.tdiv 2 ∧ d.tdiv 2 ≤ 32400000) ∧ (d < 0 → (d.tmod 2 != 0) = true → d.tdiv 2 - 1 = d / 2) ∧ (d < 0 → (d.tmod 2 != 0) = false → d.tdiv 2 = d / 2) ∧ (0 ≤ d → d.tdiv 2 = d / 2) := by
  by_cases h : 0 ≤ d
  · rw [Int.tdiv_eq_ediv_of_nonneg h]
    refine ⟨fun _ _ => by omega, fun _ => by omega, fun _ => by omega, fun _ => rfl⟩
  · have e : d.tdiv 2 = -((-d) / 2) := by rw [← Int.tdiv_eq_ediv_of_nonneg (by omega), Int.neg_tdiv, Int.neg_neg]
    have e2 : d.tmod 2 = -((-d) % 2) := by rw [← Int.tmod_eq_emod_of_nonneg (by omega), Int.neg_tmod, Int.neg_neg]
    rw [e, e2]
    refine ⟨fun _ _ => by omega, fun _ h => ?_, fun _ h => ?_, fun _ => by omega⟩
    · have : -(-d % 2) ≠ 0 := by simpa using h
      omega
    · have : -(-d % 2) = 0 := by simpa using h
      omega

theorem norm_any (a : Int) (w : World) :
    Calls Try.prog 34 #[.int .i64 a] w fun e w' => e = .returned (.int .i64 (a % 129600000)) ∧ w = w' := by
  have ⟨h0, h1, h2, h3⟩ := tmod_c a
  have H2 := Lib.hid h2
  have H3 := Lib.hid h3
  clear h2 h3
  by_cases h : a.tmod 129600000 < 0
  all_goals
    go_enter Try.func34, Try.ntmps34
    go_wp2
    go_ret
    exact ⟨ret_i64 (by have := H2.out; have := H3.out; omega), rfl⟩
theorem turn_any (a b : Int) (w : World) :
    Calls Try.prog 21 #[.int .i64 a, .int .i64 b] w fun e w' => e = .returned (.int .i64 ((a + b) % 129600000)) ∧ w = w' := by
  have e0 : 0 ≤ a % 129600000 := by omega
  have e1 : a % 129600000 < 129600000 := by omega
  have f0 : 0 ≤ b % 129600000 := by omega
  have f1 : b % 129600000 < 129600000 := by omega
  go_enter Try.func21, Try.ntmps21
  go_wp2_with (go_at_call 34; refine (norm_any _ _).mono ?_; rintro e w' ⟨rfl, rfl⟩)
  go_ret
  exact ⟨ret_i64 (by omega), rfl⟩
theorem opp_any (a : Int) (w : World) :
    Calls Try.prog 23 #[.int .i64 a] w fun e w' => e = .returned (.int .i64 ((a + 64800000) % 129600000)) ∧ w = w' := by
  go_enter Try.func23, Try.ntmps23
  go_wp2_with (go_at_call 21; refine (turn_any _ _ _).mono ?_; rintro e w' ⟨rfl, rfl⟩)
  go_ret
  exact ⟨rfl, rfl⟩
/-- the difference of two directions. -/
def adiff (f t : Int) : Int := if (t - f) % 129600000 ≤ 64800000 then (t - f) % 129600000 else (t - f) % 129600000 - 129600000
theorem adiff_b (f t : Int) : -64800000 < adiff f t ∧ adiff f t ≤ 64800000 := by unfold adiff; split <;> omega
theorem diff_any (f t : Int) (w : World) :
    Calls Try.prog 15 #[.int .i64 f, .int .i64 t] w fun e w' => e = .returned (.int .i64 (adiff f t)) ∧ w = w' := by
  have e0 : 0 ≤ f % 129600000 := by omega
  have e1 : f % 129600000 < 129600000 := by omega
  have f0 : 0 ≤ t % 129600000 := by omega
  have f1 : t % 129600000 < 129600000 := by omega
  have g0 : 0 ≤ (t % 129600000 - f % 129600000) % 129600000 := by omega
  have g1 : (t % 129600000 - f % 129600000) % 129600000 < 129600000 := by omega
  by_cases h : 64800000 < (t % 129600000 - f % 129600000) % 129600000
  all_goals
    go_enter Try.func15, Try.ntmps15
    go_wp2_with (go_at_call 34; refine (norm_any _ _).mono ?_; rintro e w' ⟨rfl, rfl⟩)
    go_ret
    exact ⟨ret_i64 (by unfold adiff; split <;> omega), rfl⟩
end Go.Proofs.Ytpgpdglmgpjhlaa
