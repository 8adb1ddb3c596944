/- The contracts of package angle and of its reference, for whole numbers: what each call returns. -/
import Derived.Test.YtfchbgcgdcoplaaChecked
import Derived.WalkKit
import Derived.WalkSpells
import Derived.WalkLawsBesides
import Derived.Lib.Hide
namespace Go.Proofs.Ytfchbgcgdcoplaa
open Go.RowKit

theorem ret_i64 {a b : Int} (h : a = b) : Ending.returned (.int .i64 a) = .returned (.int .i64 b) := by rw [h]
theorem ret_bool {a b : Bool} (h : a = b) : Ending.returned (.bool a) = .returned (.bool b) := by rw [h]
theorem tmod_c (a : Int) : -129600000 < a.tmod 129600000 ∧ a.tmod 129600000 < 129600000 ∧ (a.tmod 129600000 < 0 → a.tmod 129600000 + 129600000 = a % 129600000) ∧ (¬ a.tmod 129600000 < 0 → a.tmod 129600000 = a % 129600000) := by
  by_cases h : 0 ≤ a
  · rw [Int.tmod_eq_emod_of_nonneg h]; omega
  · have e : a.tmod 129600000 = -((-a) % 129600000) := by
      rw [← Int.tmod_eq_emod_of_nonneg (by omega), Int.neg_tmod, Int.neg_neg]
    rw [e]; omega

theorem half_c (d : Int) : (-64800000 ≤ d → d ≤ 64800000 → -32400000 ≤ d.tdiv 2 ∧ d.tdiv 2 ≤ 32400000) ∧ (d < 0 → (d.tmod 2 != 0) = true → d.tdiv 2 - 1 = d / 2) ∧ (d < 0 → (d.tmod 2 != 0) = false → d.tdiv 2 = d / 2) ∧ (0 ≤ d → d.tdiv 2 = d / 2) := by
  by_cases h : 0 ≤ d
  · rw [Int.tdiv_eq_ediv_of_nonneg h]
    refine ⟨fun _ _ => by omega, fun _ => by omega, fun _ => by omega, fun _ => rfl⟩
  · have e : d.tdiv 2 = -((-d) / 2) := by rw [← Int.tdiv_eq_ediv_of_nonneg (by omega), Int.neg_tdiv, Int.neg_neg]
    have e2 : d.tmod 2 = -((-d) % 2) := by rw [← Int.tmod_eq_emod_of_nonneg (by omega), Int.neg_tmod, Int.neg_neg]
    rw [e, e2]
    refine ⟨fun _ _ => by omega, fun _ h => ?_, fun _ h => ?_, fun _ => by omega⟩
    · have : -(-d % 2) ≠ 0 := by simpa using h
      omega
    · have : -(-d % 2) = 0 := by simpa using h
      omega

/-- the difference of two directions. -/
def adiff (f t : Int) : Int := if (t - f) % 129600000 ≤ 64800000 then (t - f) % 129600000 else (t - f) % 129600000 - 129600000
theorem adiff_b (f t : Int) : -64800000 < adiff f t ∧ adiff f t ≤ 64800000 := by unfold adiff; split <;> omega
end Go.Proofs.Ytfchbgcgdcoplaa
