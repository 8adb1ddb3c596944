/- The reference's Asin and Hypot, the intervals around sine and cosine, and the chapter's examples. -/
import Derived.Test.YtmlacekgmdlfjaaTrigR
namespace Go.Proofs.Ytmlacekgmdlfjaa
open Go.RowKit Fdk
set_option linter.unusedVariables false

set_option maxHeartbeats 800000 in
theorem rhyp_any (x y : Int) (w : World) (hy0 : -2147483647 ≤ y) (hy1 : y ≤ 2147483647) (hx0 : -2147483647 ≤ x) (hx1 : x ≤ 2147483647) :
    Calls Try.prog 60 #[.int .i64 x, .int .i64 y] w fun e w' => e = TwoInts (isq (x * x + y * y)) 0 ∧ w = w' := by
  have o1 := isOut_no hy0 hy1
  have o2 := isOut_no hx0 hx1
  have ⟨p0, p1⟩ := hyp_b hx0 hx1
  have ⟨q0, q1⟩ := hyp_b hy0 hy1
  go_enter Try.func60, Try.ntmps60
  go_wp2_with (first | (go_at_call 80; refine (rout_any _ _).mono ?_; rintro e w' ⟨rfl, rfl⟩) | (go_at_call 81; refine (rsqrt_any _ _ (by omega) (by omega)).mono ?_; rintro e w' ⟨rfl, rfl⟩))
  go_ret2
  exact ⟨rfl, rfl⟩
set_option maxHeartbeats 800000 in
theorem rhyp_out (x y : Int) (w : World) (h : ¬ ((-2147483647 ≤ y ∧ y ≤ 2147483647) ∧ (-2147483647 ≤ x ∧ x ≤ 2147483647))) :
    Calls Try.prog 60 #[.int .i64 x, .int .i64 y] w fun e w' => e = TwoInts 0 2 ∧ w = w' := by
  by_cases hx : -2147483647 ≤ x ∧ x ≤ 2147483647
  · have o1 := isOut_no hx.1 hx.2
    have o2 := isOut_yes (x := y) (fun k => h ⟨k, hx⟩)
    clear h hx
    go_enter Try.func60, Try.ntmps60
    go_wp2_with (first | (go_at_call 80; refine (rout_any _ _).mono ?_; rintro e w' ⟨rfl, rfl⟩))
    go_ret2
    exact ⟨rfl, rfl⟩
  · have o1 := isOut_yes hx
    clear h hx
    go_enter Try.func60, Try.ntmps60
    go_wp2_with (first | (go_at_call 80; refine (rout_any _ _).mono ?_; rintro e w' ⟨rfl, rfl⟩))
    go_ret2
    exact ⟨rfl, rfl⟩
end Go.Proofs.Ytmlacekgmdlfjaa
