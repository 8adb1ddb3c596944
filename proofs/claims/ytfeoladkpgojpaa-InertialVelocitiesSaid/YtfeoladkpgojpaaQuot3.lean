/- The reference's quotient, rounded to the nearest. -/
import Derived.Test.YtfeoladkpgojpaaQuot2
namespace Go.Proofs.Ytfeoladkpgojpaa
open Go.RowKit Fdk
set_option linter.unusedVariables false
theorem rround_any (a c : Int) (w : World) (h0 : -4611686018427387904 ≤ a) (h1 : a ≤ 4611686018427387904) (c0 : 1 ≤ c) (c1 : c ≤ 9223372036854775807) :
    Calls Try.prog 39 #[.int .i64 a, .int .i64 c] w fun e w' => e = TwoI (qnear a c) 0 ∧ w = w' := by
  have i1 : iabs 1 = 1 := by decide
  have hq : Hid (Calls Try.prog 53 #[.int .i64 a, .int .i64 1, .int .i64 c, .int .i64 2] w fun e w' => e = TwoI (qnear (a * 1) c) 0 ∧ w = w') := by
    by_cases hs : 0 ≤ a
    · have i2 : iabs a = a := by unfold iabs; rw [if_neg (by omega)]
      have k1 : a / c ≤ a := Int.ediv_le_self _ hs
      exact Lib.hid (quot2_pp a 1 c w (by omega) (by omega) (by omega) (by omega) c0 c1 (by rw [i1, i2, Int.mul_one]; omega) (lt_dec.1 hs) (lt_dec.1 (by omega)) (by rw [i1, i2]))
    · have i2 : iabs a = -a := by unfold iabs; rw [if_pos (by omega)]
      have k1 : -a / c ≤ -a := Int.ediv_le_self _ (by omega)
      exact Lib.hid (quot2_np a 1 c w (by omega) (by omega) (by omega) (by omega) c0 c1 (by rw [i1, i2, Int.mul_one]; omega) (lt_dec.2 (by omega)) (lt_dec.1 (by omega)) (by rw [i1, i2]; omega))
  have e1 : qnear (a * 1) c = qnear a c := by rw [Int.mul_one]
  go_enter Try.func39, Try.ntmps39
  go_wp2_with fail
  refine hq.out.mono ?_
  rintro e w' ⟨rfl, rfl⟩
  rw [e1]
  go_wp2
  go_ret2
  exact ⟨rfl, rfl⟩
end Go.Proofs.Ytfeoladkpgojpaa
