/- The law that sines and cosines are within Error of the real ones: the law's series. -/
import Derived.Test.YtdbklfledjaklaaTrigS
import Derived.Test.YtdbklfledjaklaaTrigP8
import Derived.Test.YtdbklfledjaklaaQuot2
namespace Go.Proofs.Ytdbklfledjaklaa
open Go.RowKit Fdk
set_option linter.unusedVariables false

theorem iabs_p {a : Int} (h : 0 ≤ a) : iabs a = a := by unfold iabs; rw [if_neg (by omega)]
theorem mulDiv_pp (a b c : Int) (w : World) (a0 : 0 ≤ a) (a1 : a ≤ 9223372036854775807) (b0 : 0 ≤ b) (b1 : b ≤ 9223372036854775807) (c0 : 1 ≤ c) (c1 : c ≤ 9223372036854775807) (hq : a * b / c ≤ 4611686018427387904) :
    Calls Try.prog 33 #[.int .i64 a, .int .i64 b, .int .i64 c] w fun e w' => e = TwoI (a * b / c) 0 ∧ w = w' := by
  have HQ := Lib.hid (show iabs a * iabs b / c ≤ 4611686018427387904 by rw [iabs_p a0, iabs_p b0]; exact hq)
  have HP := Lib.hid (show a * b = iabs a * iabs b by rw [iabs_p a0, iabs_p b0])
  clear hq
  go_enter Try.func33, Try.ntmps33
  go_wp2_with (first | (go_at_call 50; refine (quot0_pp a b c _ (by omega) a1 (by omega) b1 c0 c1 HQ.out (lt_dec.1 a0) (lt_dec.1 b0) HP.out).mono ?_; rintro e w' ⟨rfl, rfl⟩))
  go_ret2
  exact ⟨rfl, rfl⟩
theorem mulDivUp_pp (a b c : Int) (w : World) (a0 : 0 ≤ a) (a1 : a ≤ 9223372036854775807) (b0 : 0 ≤ b) (b1 : b ≤ 9223372036854775807) (c0 : 1 ≤ c) (c1 : c ≤ 9223372036854775807) (hq : a * b / c ≤ 4611686018427387904) :
    Calls Try.prog 34 #[.int .i64 a, .int .i64 b, .int .i64 c] w fun e w' => e = TwoI (-(-(a * b) / c)) 0 ∧ w = w' := by
  have HQ := Lib.hid (show iabs a * iabs b / c ≤ 4611686018427387904 by rw [iabs_p a0, iabs_p b0]; exact hq)
  have HP := Lib.hid (show a * b = iabs a * iabs b by rw [iabs_p a0, iabs_p b0])
  clear hq
  go_enter Try.func34, Try.ntmps34
  go_wp2_with (first | (go_at_call 50; refine (quot1_pp a b c _ (by omega) a1 (by omega) b1 c0 c1 HQ.out (lt_dec.1 a0) (lt_dec.1 b0) HP.out).mono ?_; rintro e w' ⟨rfl, rfl⟩))
  go_ret2
  exact ⟨rfl, rfl⟩
theorem fdn_q {x y : Int} (x0 : 0 ≤ x) (x1 : x ≤ 1152921504606846976) (y0 : 0 ≤ y) (y1 : y ≤ 1152921504606846976) : x * y / 1152921504606846976 ≤ 4611686018427387904 := by
  have : x * y ≤ 1152921504606846976 * 1152921504606846976 := Int.mul_le_mul x1 y1 y0 (by omega)
  generalize x * y = P at *
  omega
theorem down_any (x y : Int) (w : World) (x0 : 0 ≤ x) (x1 : x ≤ 1152921504606846976) (y0 : 0 ≤ y) (y1 : y ≤ 1152921504606846976) :
    Calls Try.prog 35 #[.int .i64 x, .int .i64 y] w fun e w' => e = .returned (.int .i64 (fdn x y)) ∧ w = w' := by
  have HQ := Lib.hid (fdn_q x0 x1 y0 y1)
  go_enter Try.func35, Try.ntmps35
  go_wp2_with (first | (go_at_call 33; refine (mulDiv_pp x y 1152921504606846976 _ x0 (by omega) y0 (by omega) (by omega) (by omega) HQ.out).mono ?_; rintro e w' ⟨rfl, rfl⟩))
  go_ret
  exact ⟨rfl, rfl⟩
theorem up_any (x y : Int) (w : World) (x0 : 0 ≤ x) (x1 : x ≤ 1152921504606846976) (y0 : 0 ≤ y) (y1 : y ≤ 1152921504606846976) :
    Calls Try.prog 36 #[.int .i64 x, .int .i64 y] w fun e w' => e = .returned (.int .i64 (fup x y)) ∧ w = w' := by
  have HQ := Lib.hid (fdn_q x0 x1 y0 y1)
  go_enter Try.func36, Try.ntmps36
  go_wp2_with (first | (go_at_call 34; refine (mulDivUp_pp x y 1152921504606846976 _ x0 (by omega) y0 (by omega) (by omega) (by omega) HQ.out).mono ?_; rintro e w' ⟨rfl, rfl⟩))
  go_ret
  exact ⟨rfl, rfl⟩
end Go.Proofs.Ytdbklfledjaklaa
