/- Asin and Hypot of package trig, and the reference's Atan2, Asin, Hypot: what each call returns. -/
import Derived.Test.YtmlacekgmdlfjaaTrigY
import Derived.Test.YtmlacekgmdlfjaaSqrt
namespace Go.Proofs.Ytmlacekgmdlfjaa
open Go.RowKit Fdk
set_option linter.unusedVariables false

/-! ### Asin -/
theorem hyp_b {x : Int} (h0 : -2147483647 ≤ x) (h1 : x ≤ 2147483647) : 0 ≤ x * x ∧ x * x ≤ 4611686014132420609 := by
  have k : x * x = iabs x * iabs x := by
    unfold iabs; split
    · exact (Int.neg_mul_neg x x).symm
    · rfl
  have ⟨a0, a1⟩ := iabs_b h0 h1
  rw [k]
  have := sq_le a0 a1
  exact ⟨Int.mul_nonneg a0 a0, by omega⟩
set_option maxHeartbeats 800000 in
theorem hyp_any (x y : Int) (w : World) (hy0 : -2147483647 ≤ y) (hy1 : y ≤ 2147483647) (hx0 : -2147483647 ≤ x) (hx1 : x ≤ 2147483647) :
    Calls Try.prog 22 #[.int .i64 x, .int .i64 y] w fun e w' => e = TwoInts (isq (x * x + y * y)) 0 ∧ w = w' := by
  have o1 := isOut_no hy0 hy1
  have o2 := isOut_no hx0 hx1
  have ⟨p0, p1⟩ := hyp_b hx0 hx1
  have ⟨q0, q1⟩ := hyp_b hy0 hy1
  go_enter Try.func22, Try.ntmps22
  go_wp2_with (first | (go_at_call 48; refine (out_any _ _).mono ?_; rintro e w' ⟨rfl, rfl⟩) | (go_at_call 46; refine (sqrt_any _ _ (by omega) (by omega)).mono ?_; rintro e w' ⟨rfl, rfl⟩))
  go_ret2
  exact ⟨rfl, rfl⟩
set_option maxHeartbeats 800000 in
theorem hyp_out (x y : Int) (w : World) (h : ¬ ((-2147483647 ≤ y ∧ y ≤ 2147483647) ∧ (-2147483647 ≤ x ∧ x ≤ 2147483647))) :
    Calls Try.prog 22 #[.int .i64 x, .int .i64 y] w fun e w' => e = TwoInts 0 2 ∧ w = w' := by
  by_cases hx : -2147483647 ≤ x ∧ x ≤ 2147483647
  · have o1 := isOut_no hx.1 hx.2
    have o2 := isOut_yes (x := y) (fun k => h ⟨k, hx⟩)
    clear h hx
    go_enter Try.func22, Try.ntmps22
    go_wp2_with (first | (go_at_call 48; refine (out_any _ _).mono ?_; rintro e w' ⟨rfl, rfl⟩))
    go_ret2
    exact ⟨rfl, rfl⟩
  · have o1 := isOut_yes hx
    clear h hx
    go_enter Try.func22, Try.ntmps22
    go_wp2_with (first | (go_at_call 48; refine (out_any _ _).mono ?_; rintro e w' ⟨rfl, rfl⟩))
    go_ret2
    exact ⟨rfl, rfl⟩

end Go.Proofs.Ytmlacekgmdlfjaa
