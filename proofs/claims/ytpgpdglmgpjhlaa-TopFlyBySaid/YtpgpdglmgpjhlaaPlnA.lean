/- Package plane and its reference: validity, rounding; quotients. -/
import Derived.Test.YtpgpdglmgpjhlaaScale
import Derived.Test.YtpgpdglmgpjhlaaSphU
import Derived.Test.YtpgpdglmgpjhlaaSphL
import Derived.Test.YtpgpdglmgpjhlaaSphC
namespace Go.Proofs.Ytpgpdglmgpjhlaa
open Go.RowKit Go.Joins Fdk
set_option linter.unusedVariables false
abbrev ptV (x y : Int) : Value := .agg #[.int .i64 x, .int .i64 y]
def pvd (a b : Int) : Bool := decide (-2000000 ≤ a) && (decide (a ≤ 2000000) && (decide (-2000000 ≤ b) && decide (b ≤ 2000000)))
theorem pvd_of {a b : Int} (h : pvd a b = true) : (-2000000 ≤ a ∧ a ≤ 2000000) ∧ -2000000 ≤ b ∧ b ≤ 2000000 := by
  simp only [pvd, Bool.and_eq_true, decide_eq_true_eq] at h; omega
theorem pvd_cases (a b : Int) : ((¬ -2000000 ≤ a) ∧ Hid (pvd a b = false)) ∨ (-2000000 ≤ a ∧ (¬ a ≤ 2000000) ∧ Hid (pvd a b = false)) ∨ (-2000000 ≤ a ∧ a ≤ 2000000 ∧ (¬ -2000000 ≤ b) ∧ Hid (pvd a b = false)) ∨
    (-2000000 ≤ a ∧ a ≤ 2000000 ∧ -2000000 ≤ b ∧ (¬ b ≤ 2000000) ∧ Hid (pvd a b = false)) ∨ (-2000000 ≤ a ∧ a ≤ 2000000 ∧ -2000000 ≤ b ∧ b ≤ 2000000 ∧ Hid (pvd a b = true)) := by
  by_cases h1 : -2000000 ≤ a
  · by_cases h2 : a ≤ 2000000
    · by_cases h3 : -2000000 ≤ b
      · by_cases h4 : b ≤ 2000000
        · exact .inr (.inr (.inr (.inr ⟨h1, h2, h3, h4, Lib.hid (by simp [pvd, h1, h2, h3, h4])⟩)))
        · exact .inr (.inr (.inr (.inl ⟨h1, h2, h3, h4, Lib.hid (by simp [pvd, h4])⟩)))
      · exact .inr (.inr (.inl ⟨h1, h2, h3, Lib.hid (by simp [pvd, h3])⟩))
    · exact .inr (.inl ⟨h1, h2, Lib.hid (by simp [pvd, h2])⟩)
  · exact .inl ⟨h1, Lib.hid (by simp [pvd, h1])⟩
theorem pvalid_any (a b : Int) (w : World) :
    Calls Try.prog 14 #[ptV a b] w fun e w' => e = .returned (.bool (pvd a b)) ∧ Below w.heap.size w w' := by
  rcases pvd_cases a b with ⟨h1, hh⟩ | ⟨h1, h2, hh⟩ | ⟨h1, h2, h3, hh⟩ | ⟨h1, h2, h3, h4, hh⟩ | ⟨h1, h2, h3, h4, hh⟩
  all_goals
    go_enter Try.func14, Try.ntmps14
    go_wp2
    go_ret
    exact ⟨ret_b hh.out.symm, by go_grown⟩
theorem fround_any (a c : Int) (w : World) (h0 : -4611686018427387904 ≤ a) (h1 : a ≤ 4611686018427387904) (c0 : 1 ≤ c) (c1 : c ≤ 9223372036854775807) :
    Calls Try.prog 29 #[.int .i64 a, .int .i64 c] w fun e w' => e = TwoI (qnear a c) 0 ∧ Drew w w' := by
  have i1 : iabs 1 = 1 := by decide
  have hq : Hid (Calls Try.prog 35 #[.int .i64 a, .int .i64 1, .int .i64 c, .int .u8 2] w fun e w' => e = TwoI (qnear (a * 1) c) 0 ∧ Drew w w') := by
    by_cases hs : 0 ≤ a
    · have i2 : iabs a = a := by unfold iabs; rw [if_neg (by omega)]
      have k1 : a / c ≤ a := Int.ediv_le_self _ hs
      exact Lib.hid (scale2_pp a 1 c w (by omega) (by omega) (by omega) (by omega) c0 c1 (by rw [i1, i2]; omega) (by rw [i1, i2, Int.mul_one]; omega) (lt_dec.1 hs) (lt_dec.1 (by omega)) (by rw [i1, i2]))
    · have i2 : iabs a = -a := by unfold iabs; rw [if_pos (by omega)]
      have k1 : -a / c ≤ -a := Int.ediv_le_self _ (by omega)
      exact Lib.hid (scale2_np a 1 c w (by omega) (by omega) (by omega) (by omega) c0 c1 (by rw [i1, i2]; omega) (by rw [i1, i2, Int.mul_one]; omega) (lt_dec.2 (by omega)) (lt_dec.1 (by omega)) (by rw [i1, i2]; omega))
  have e1 : qnear (a * 1) c = qnear a c := by rw [Int.mul_one]
  go_enter Try.func29, Try.ntmps29
  go_wp2_with fail
  refine hq.out.mono ?_
  rintro e w' ⟨rfl, hd⟩
  have HD := Lib.hid hd
  clear hd
  rw [e1]
  go_wp2
  go_ret2
  exact ⟨rfl, HD.out⟩
end Go.Proofs.Ytpgpdglmgpjhlaa
