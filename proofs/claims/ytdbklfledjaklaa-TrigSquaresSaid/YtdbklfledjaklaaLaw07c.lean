/- The law of the squares of sine and cosine: the call returns true. -/
import Derived.Test.YtdbklfledjaklaaTrigS
import Derived.Test.YtdbklfledjaklaaTrigP6
namespace Go.Proofs.Ytdbklfledjaklaa
open Go.RowKit Fdk
set_option linter.unusedVariables false

theorem ss_b {s : Int} (h0 : -1073741824 ≤ s) (h1 : s ≤ 1073741824) : 0 ≤ s * s ∧ s * s ≤ 1152921504606846976 := by
  have ⟨a0, a1⟩ := hyp_b (x := s) (by omega) (by omega)
  have k : 0 ≤ (1073741824 - s) * (1073741824 + s) := Int.mul_nonneg (by omega) (by omega)
  have e : (1073741824 - s) * (1073741824 + s) = 1152921504606846976 - s * s := by grind
  rw [e] at k; exact ⟨a0, by omega⟩
set_option maxHeartbeats 800000 in
theorem trigSquares_walk (a : Int) (_ : -9223372036854775808 ≤ a ∧ a ≤ 9223372036854775807) (w : World) :
    Calls Try.prog 6 #[.int .i64 a] w fun e w' => e = .returned (.bool true) ∧ Below w.heap.size w w' := by
  have ⟨s0, s1⟩ := sn_b a
  have ⟨c0, c1⟩ := cn_b a
  have ⟨p0, p1⟩ := ss_b s0 s1
  have ⟨q0, q1⟩ := ss_b c0 c1
  have ⟨k0, k1⟩ := sq_all a
  go_enter Try.func6, Try.ntmps6
  go_wp2_with fail
  refine (awake_any _).mono ?_
  rintro e w1 ⟨rfl, hb1⟩
  go_wp2_with (first | (go_at_call 13; refine (sin_any _ _).mono ?_; rintro e w' ⟨rfl, rfl⟩) | (go_at_call 15; refine (cos_any _ _).mono ?_; rintro e w' ⟨rfl, rfl⟩))
  go_ret
  exact ⟨rfl, hb1⟩
end Go.Proofs.Ytdbklfledjaklaa
