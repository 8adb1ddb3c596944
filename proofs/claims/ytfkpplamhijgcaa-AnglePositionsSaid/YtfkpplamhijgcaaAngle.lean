/- The contracts of package angle and of its reference, for whole numbers: what each call returns. -/
import Derived.Test.YtfkpplamhijgcaaChecked
import Derived.WalkKit
import Derived.WalkSpells
import Derived.WalkLawsBesides
import Derived.Lib.Hide
namespace Go.Proofs.Ytfkpplamhijgcaa
open Go.RowKit

theorem ret_i64 {a b : Int} (h : a = b) : Ending.returned (.int .i64 a) = .returned (.int .i64 b) := by rw [h]
theorem ret_bool {a b : Bool} (h : a = b) : Ending.returned (.bool a) = .returned (.bool b) := by rw [h]
theorem tmod_c (a : Int) : -129600000 < a.tmod 129600000 ∧ a.tmod 129600000 < 129600000 ∧ (a.tmod 129600000 < 0 → a.tmod 129600000 + 129600000 = a % 129600000) ∧ (¬ a.tmod 129600000 < 0 → a.tmod 129600000 = a % 129600000) := by
  by_cases h : 0 ≤ a
  · rw [Int.tmod_eq_emod_of_nonneg h]; omega
  · have e : a.tmod 129600000 = -((-a) % 129600000) := by
      rw [← Int.tmod_eq_emod_of_nonneg (by omega), Int.neg_tmod, Int.neg_neg]
    rw [e]; omega

theorem half_c (d : Int) : (-64800000 ≤ d → d ≤ 64800000 → -32400000 ≤ d.tdiv 2 ∧ d.tdiv 2 ≤ 32400000) ∧ (d < 0 → (d.tmod 2 != 0) = true → d.tdiv 2 - 1 = d / 2) ∧ (d < 0 → (d.tmod 2 != 0) = false → d.tdiv 2 = d / 2) ∧ (0 ≤ d → d.tdiv 2 = d / 2) := by
  by_cases h : 0 ≤ d
  · rw [Int.tdiv_eq_ediv_of_nonneg h]
    refine ⟨fun _ _ => by omega, fun _ => by omega, fun _ => by omega, fun _ => rfl⟩
  · have e : d.tdiv 2 = -((-d) / 2) := by rw [← Int.tdiv_eq_ediv_of_nonneg (by omega), Int.neg_tdiv, Int.neg_neg]
    have e2 : d.tmod 2 = -((-d) % 2) := by rw [← Int.tmod_eq_emod_of_nonneg (by omega), Int.neg_tmod, Int.neg_neg]
    rw [e, e2]
    refine ⟨fun _ _ => by omega, fun _ h => ?_, fun _ h => ?_, fun _ => by omega⟩
    · have : -(-d % 2) ≠ 0 := by simpa using h
      omega
    · have : -(-d % 2) = 0 := by simpa using h
      omega

theorem norm_any (a : Int) (w : World) :
    Calls Try.prog 14 #[.int .i64 a] w fun e w' => e = .returned (.int .i64 (a % 129600000)) ∧ w = w' := by
  have ⟨h0, h1, h2, h3⟩ := tmod_c a
  have H2 := Lib.hid h2
  have H3 := Lib.hid h3
  clear h2 h3
  by_cases h : a.tmod 129600000 < 0
  all_goals
    go_enter Try.func14, Try.ntmps14
    go_wp2
    go_ret
    exact ⟨ret_i64 (by have := H2.out; have := H3.out; omega), rfl⟩
theorem turn_any (a b : Int) (w : World) :
    Calls Try.prog 16 #[.int .i64 a, .int .i64 b] w fun e w' => e = .returned (.int .i64 ((a + b) % 129600000)) ∧ w = w' := by
  have e0 : 0 ≤ a % 129600000 := by omega
  have e1 : a % 129600000 < 129600000 := by omega
  have f0 : 0 ≤ b % 129600000 := by omega
  have f1 : b % 129600000 < 129600000 := by omega
  go_enter Try.func16, Try.ntmps16
  go_wp2_with (go_at_call 14; refine (norm_any _ _).mono ?_; rintro e w' ⟨rfl, rfl⟩)
  go_ret
  exact ⟨ret_i64 (by omega), rfl⟩
theorem rnorm_any (a : Int) (w : World) :
    Calls Try.prog 15 #[.int .i64 a] w fun e w' => e = .returned (.int .i64 (a % 129600000)) ∧ w = w' := by
  have ⟨h0, h1, h2, h3⟩ := tmod_c a
  have H2 := Lib.hid h2
  have H3 := Lib.hid h3
  clear h2 h3
  by_cases h : a.tmod 129600000 < 0
  all_goals
    go_enter Try.func15, Try.ntmps15
    go_wp2
    go_ret
    exact ⟨ret_i64 (by have := H2.out; have := H3.out; omega), rfl⟩
theorem rturn_any (a b : Int) (w : World) :
    Calls Try.prog 17 #[.int .i64 a, .int .i64 b] w fun e w' => e = .returned (.int .i64 ((a + b) % 129600000)) ∧ w = w' := by
  have e0 : 0 ≤ a % 129600000 := by omega
  have e1 : a % 129600000 < 129600000 := by omega
  have f0 : 0 ≤ b % 129600000 := by omega
  have f1 : b % 129600000 < 129600000 := by omega
  go_enter Try.func17, Try.ntmps17
  go_wp2_with (go_at_call 15; refine (rnorm_any _ _).mono ?_; rintro e w' ⟨rfl, rfl⟩)
  go_ret
  exact ⟨ret_i64 (by omega), rfl⟩
theorem opp_any (a : Int) (w : World) :
    Calls Try.prog 18 #[.int .i64 a] w fun e w' => e = .returned (.int .i64 ((a + 64800000) % 129600000)) ∧ w = w' := by
  go_enter Try.func18, Try.ntmps18
  go_wp2_with (go_at_call 16; refine (turn_any _ _ _).mono ?_; rintro e w' ⟨rfl, rfl⟩)
  go_ret
  exact ⟨rfl, rfl⟩
theorem ropp_any (a : Int) (w : World) :
    Calls Try.prog 19 #[.int .i64 a] w fun e w' => e = .returned (.int .i64 ((a + 64800000) % 129600000)) ∧ w = w' := by
  go_enter Try.func19, Try.ntmps19
  go_wp2_with (go_at_call 17; refine (rturn_any _ _ _).mono ?_; rintro e w' ⟨rfl, rfl⟩)
  go_ret
  exact ⟨rfl, rfl⟩
/-- the difference of two directions. -/
def adiff (f t : Int) : Int := if (t - f) % 129600000 ≤ 64800000 then (t - f) % 129600000 else (t - f) % 129600000 - 129600000
theorem adiff_b (f t : Int) : -64800000 < adiff f t ∧ adiff f t ≤ 64800000 := by unfold adiff; split <;> omega
theorem diff_any (f t : Int) (w : World) :
    Calls Try.prog 13 #[.int .i64 f, .int .i64 t] w fun e w' => e = .returned (.int .i64 (adiff f t)) ∧ w = w' := by
  have e0 : 0 ≤ f % 129600000 := by omega
  have e1 : f % 129600000 < 129600000 := by omega
  have f0 : 0 ≤ t % 129600000 := by omega
  have f1 : t % 129600000 < 129600000 := by omega
  have g0 : 0 ≤ (t % 129600000 - f % 129600000) % 129600000 := by omega
  have g1 : (t % 129600000 - f % 129600000) % 129600000 < 129600000 := by omega
  by_cases h : 64800000 < (t % 129600000 - f % 129600000) % 129600000
  all_goals
    go_enter Try.func13, Try.ntmps13
    go_wp2_with (go_at_call 14; refine (norm_any _ _).mono ?_; rintro e w' ⟨rfl, rfl⟩)
    go_ret
    exact ⟨ret_i64 (by unfold adiff; split <;> omega), rfl⟩
theorem rdiff_any (f t : Int) (w : World) :
    Calls Try.prog 20 #[.int .i64 f, .int .i64 t] w fun e w' => e = .returned (.int .i64 (adiff f t)) ∧ w = w' := by
  have e0 : 0 ≤ f % 129600000 := by omega
  have e1 : f % 129600000 < 129600000 := by omega
  have f0 : 0 ≤ t % 129600000 := by omega
  have f1 : t % 129600000 < 129600000 := by omega
  have g0 : 0 ≤ (t % 129600000 - f % 129600000) % 129600000 := by omega
  have g1 : (t % 129600000 - f % 129600000) % 129600000 < 129600000 := by omega
  by_cases h : 64800000 < (t % 129600000 - f % 129600000) % 129600000
  all_goals
    go_enter Try.func20, Try.ntmps20
    go_wp2_with (go_at_call 15; refine (rnorm_any _ _).mono ?_; rintro e w' ⟨rfl, rfl⟩)
    go_ret
    exact ⟨ret_i64 (by unfold adiff; split <;> omega), rfl⟩
theorem mid_any (f t : Int) (w : World) :
    Calls Try.prog 21 #[.int .i64 f, .int .i64 t] w fun e w' => e = .returned (.int .i64 ((f + adiff f t / 2) % 129600000)) ∧ w = w' := by
  have := adiff_b f t
  go_enter Try.func21, Try.ntmps21
  go_wp2_with (first | (go_at_call 13; refine (diff_any _ _ _).mono ?_; rintro e w' ⟨rfl, rfl⟩) | (go_at_call 16; refine (turn_any _ _ _).mono ?_; rintro e w' ⟨rfl, rfl⟩))
  go_ret
  exact ⟨rfl, rfl⟩
theorem rmid_any (f t : Int) (w : World) :
    Calls Try.prog 22 #[.int .i64 f, .int .i64 t] w fun e w' => e = .returned (.int .i64 ((f + adiff f t / 2) % 129600000)) ∧ w = w' := by
  have hb := adiff_b f t
  have ⟨ht, ht2⟩ := (half_c (adiff f t)).1 (by omega) (by omega)
  go_enter Try.func22, Try.ntmps22
  go_wp2_with (first | (go_at_call 20; refine (rdiff_any _ _ _).mono ?_; rintro e w' ⟨rfl, rfl⟩) | (go_at_call 17; refine (rturn_any _ _ _).mono ?_; rintro e w' ⟨rfl, rfl⟩))
  · have h1 : adiff f t < 0 := by assumption
    have h2 : ((adiff f t).tmod 2 != 0) = true := by assumption
    go_ret
    exact ⟨ret_i64 (by rw [(half_c _).2.1 h1 h2]), rfl⟩
  · have h1 : adiff f t < 0 := by assumption
    have h2 : ((adiff f t).tmod 2 != 0) = false := by assumption
    go_ret
    exact ⟨ret_i64 (by rw [(half_c _).2.2.1 h1 h2]), rfl⟩
  · have h1 : 0 ≤ adiff f t := by assumption
    go_ret
    exact ⟨ret_i64 (by rw [(half_c _).2.2.2 h1]), rfl⟩
/-- how far one turns: 2 is to the right, 1 to the left. -/
def aswp (f t : Int) (k : Int) : Int := if k = 2 then (t - f) % 129600000 else if k = 1 then (f - t) % 129600000 else 0
theorem aswp_b (f t k : Int) : 0 ≤ aswp f t k ∧ aswp f t k < 129600000 := by unfold aswp; split <;> (try split) <;> omega
theorem swp_any (f t k : Int) (w : World) (h0 : 0 ≤ k) (h1 : k ≤ 255) :
    Calls Try.prog 23 #[.int .i64 f, .int .i64 t, .int .u8 k] w fun e w' => e = .returned (.int .i64 (aswp f t k)) ∧ w = w' := by
  have e0 : 0 ≤ f % 129600000 := by omega
  have e1 : f % 129600000 < 129600000 := by omega
  have f0 : 0 ≤ t % 129600000 := by omega
  have f1 : t % 129600000 < 129600000 := by omega
  by_cases h : k = 2
  · subst h
    go_enter Try.func23, Try.ntmps23
    go_wp2_with (go_at_call 14; refine (norm_any _ _).mono ?_; rintro e w' ⟨rfl, rfl⟩)
    go_ret
    exact ⟨ret_i64 (by unfold aswp; omega), rfl⟩
  by_cases h' : k = 1
  · subst h'
    go_enter Try.func23, Try.ntmps23
    go_wp2_with (go_at_call 14; refine (norm_any _ _).mono ?_; rintro e w' ⟨rfl, rfl⟩)
    go_ret
    exact ⟨ret_i64 (by unfold aswp; omega), rfl⟩
  go_enter Try.func23, Try.ntmps23
  go_wp2_with (go_at_call 14; refine (norm_any _ _).mono ?_; rintro e w' ⟨rfl, rfl⟩)
  go_ret
  exact ⟨ret_i64 (by unfold aswp; omega), rfl⟩
theorem rswp_any (f t k : Int) (w : World) (h0 : 0 ≤ k) (h1 : k ≤ 255) :
    Calls Try.prog 24 #[.int .i64 f, .int .i64 t, .int .u8 k] w fun e w' => e = .returned (.int .i64 (aswp f t k)) ∧ w = w' := by
  have e0 : 0 ≤ f % 129600000 := by omega
  have e1 : f % 129600000 < 129600000 := by omega
  have f0 : 0 ≤ t % 129600000 := by omega
  have f1 : t % 129600000 < 129600000 := by omega
  by_cases h : k = 2
  · subst h
    go_enter Try.func24, Try.ntmps24
    go_wp2_with (go_at_call 15; refine (rnorm_any _ _).mono ?_; rintro e w' ⟨rfl, rfl⟩)
    go_ret
    exact ⟨ret_i64 (by unfold aswp; omega), rfl⟩
  by_cases h' : k = 1
  · subst h'
    go_enter Try.func24, Try.ntmps24
    go_wp2_with (go_at_call 15; refine (rnorm_any _ _).mono ?_; rintro e w' ⟨rfl, rfl⟩)
    go_ret
    exact ⟨ret_i64 (by unfold aswp; omega), rfl⟩
  go_enter Try.func24, Try.ntmps24
  go_wp2_with (go_at_call 15; refine (rnorm_any _ _).mono ?_; rintro e w' ⟨rfl, rfl⟩)
  go_ret
  exact ⟨ret_i64 (by unfold aswp; omega), rfl⟩
/-- whether a direction is in a sector. -/
def awi (a f s : Int) : Bool := if 0 ≤ s then decide (aswp f a 2 ≤ s) else decide (s ≤ - aswp f a 1)
theorem wi_any (a f s : Int) (w : World) :
    Calls Try.prog 25 #[.int .i64 a, .int .i64 f, .int .i64 s] w fun e w' => e = .returned (.bool (awi a f s)) ∧ w = w' := by
  have h1 := aswp_b f a 2
  have h2 := aswp_b f a 1
  by_cases h : 0 ≤ s
  all_goals
    go_enter Try.func25, Try.ntmps25
    go_wp2_with (go_at_call 23; refine (swp_any _ _ _ _ (by omega) (by omega)).mono ?_; rintro e w' ⟨rfl, rfl⟩)
    go_ret
    exact ⟨ret_bool (by unfold awi; first | rw [if_pos (by omega)] | rw [if_neg (by omega)]), rfl⟩
theorem rwi_any (a f s : Int) (w : World) :
    Calls Try.prog 26 #[.int .i64 a, .int .i64 f, .int .i64 s] w fun e w' => e = .returned (.bool (awi a f s)) ∧ w = w' := by
  have h1 := aswp_b f a 2
  have h2 := aswp_b f a 1
  by_cases h : 0 ≤ s
  all_goals
    go_enter Try.func26, Try.ntmps26
    go_wp2_with (go_at_call 24; refine (rswp_any _ _ _ _ (by omega) (by omega)).mono ?_; rintro e w' ⟨rfl, rfl⟩)
    go_ret
    exact ⟨ret_bool (by unfold awi; first | rw [if_pos (by omega)] | rw [if_neg (by omega)]), rfl⟩
end Go.Proofs.Ytfkpplamhijgcaa
