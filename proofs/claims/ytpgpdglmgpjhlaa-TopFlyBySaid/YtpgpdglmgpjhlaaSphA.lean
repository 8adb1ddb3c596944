/- Package sphere and its reference: rounding, validity, vectors of positions. -/
import Derived.Test.YtpgpdglmgpjhlaaTrigX
import Derived.Test.YtpgpdglmgpjhlaaTrigY
import Derived.Test.YtpgpdglmgpjhlaaCells
import Derived.Lib.SmallJoins
import Derived.Handy
import Derived.Deep.RegionHeld
import Derived.Deep.QuietTactic
import Derived.BigQuiet
import Derived.WalkSmall
namespace Go.Proofs.Ytpgpdglmgpjhlaa
open Go.RowKit Go.Joins Fdk
set_option linter.unusedVariables false

theorem ret_b {a b : Bool} (h : a = b) : Ending.returned (.bool a) = .returned (.bool b) := by rw [h]
abbrev posV (a b : Int) : Value := .agg #[.int .i64 a, .int .i64 b]
abbrev vecV (x y z : Int) : Value := .agg #[.int .i64 x, .int .i64 y, .int .i64 z]
/-- a product without its scale. -/
def rd (x : Int) : Int := (x + 536870912) / 1073741824
theorem rd_b {x : Int} (h0 : -1152921504606846976 ≤ x) (h1 : x ≤ 1152921504606846976) : -1073741824 ≤ rd x ∧ rd x ≤ 1073741824 := by unfold rd; omega
def vd (a b : Int) : Bool := decide (-32400000 ≤ a) && (decide (a ≤ 32400000) && (decide (-64800000 < b) && decide (b ≤ 64800000)))
theorem vd_of {a b : Int} (h : vd a b = true) : (-32400000 ≤ a ∧ a ≤ 32400000) ∧ -64800000 < b ∧ b ≤ 64800000 := by
  simp only [vd, Bool.and_eq_true, decide_eq_true_eq] at h; omega
theorem vd_cases (a b : Int) : ((¬ -32400000 ≤ a) ∧ Hid (vd a b = false)) ∨ (-32400000 ≤ a ∧ (¬ a ≤ 32400000) ∧ Hid (vd a b = false)) ∨ (-32400000 ≤ a ∧ a ≤ 32400000 ∧ (¬ -64800000 < b) ∧ Hid (vd a b = false)) ∨
    (-32400000 ≤ a ∧ a ≤ 32400000 ∧ -64800000 < b ∧ (¬ b ≤ 64800000) ∧ Hid (vd a b = false)) ∨ (-32400000 ≤ a ∧ a ≤ 32400000 ∧ -64800000 < b ∧ b ≤ 64800000 ∧ Hid (vd a b = true)) := by
  by_cases h1 : -32400000 ≤ a
  · by_cases h2 : a ≤ 32400000
    · by_cases h3 : -64800000 < b
      · by_cases h4 : b ≤ 64800000
        · exact .inr (.inr (.inr (.inr ⟨h1, h2, h3, h4, Lib.hid (by simp [vd, h1, h2, h3, h4])⟩)))
        · exact .inr (.inr (.inr (.inl ⟨h1, h2, h3, h4, Lib.hid (by simp [vd, h4])⟩)))
      · exact .inr (.inr (.inl ⟨h1, h2, h3, Lib.hid (by simp [vd, h3])⟩))
    · exact .inr (.inl ⟨h1, h2, Lib.hid (by simp [vd, h2])⟩)
  · exact .inl ⟨h1, Lib.hid (by simp [vd, h1])⟩
/-- the product of two numbers of at most One in size. -/
theorem one_b {x y : Int} (h0 : -1073741824 ≤ x) (h1 : x ≤ 1073741824) (h2 : -1073741824 ≤ y) (h3 : y ≤ 1073741824) : -1152921504606846976 ≤ x * y ∧ x * y ≤ 1152921504606846976 := by
  rcases Int.le_total 0 x with k | k
  · have k1 : x * y ≤ x * 1073741824 := Int.mul_le_mul_of_nonneg_left h3 k
    have k2 : x * -1073741824 ≤ x * y := Int.mul_le_mul_of_nonneg_left h2 k
    omega
  · have k1 : -x * y ≤ -x * 1073741824 := Int.mul_le_mul_of_nonneg_left h3 (by omega)
    have k2 : -x * -1073741824 ≤ -x * y := Int.mul_le_mul_of_nonneg_left h2 (by omega)
    have e : -x * y = -(x * y) := Int.neg_mul x y
    omega
theorem cc_b (a b : Int) : -1152921504606846976 ≤ cn a * cn b ∧ cn a * cn b ≤ 1152921504606846976 := one_b (cn_b a).1 (cn_b a).2 (cn_b b).1 (cn_b b).2
theorem cs_b (a b : Int) : -1152921504606846976 ≤ cn a * sn b ∧ cn a * sn b ≤ 1152921504606846976 := one_b (cn_b a).1 (cn_b a).2 (sn_b b).1 (sn_b b).2
theorem sc_b (a b : Int) : -1152921504606846976 ≤ sn a * cn b ∧ sn a * cn b ≤ 1152921504606846976 := one_b (sn_b a).1 (sn_b a).2 (cn_b b).1 (cn_b b).2
theorem ss_b (a b : Int) : -1152921504606846976 ≤ sn a * sn b ∧ sn a * sn b ≤ 1152921504606846976 := one_b (sn_b a).1 (sn_b a).2 (sn_b b).1 (sn_b b).2
abbrev V4 (c : Int × Int × Int × Int) : Ending := .returned (.tuple #[vecV c.1 c.2.1 c.2.2.1, .int .i64 c.2.2.2])
theorem v4 {c d : Int × Int × Int × Int} (h : c = d) : V4 c = V4 d := by rw [h]
/-- the vector of a position, and the error. -/
def ofv (a b : Int) : Int × Int × Int × Int := if vd a b then (rd (cn a * cn b), rd (cn a * sn b), sn a, 0) else (0, 0, 0, 1)
end Go.Proofs.Ytpgpdglmgpjhlaa
