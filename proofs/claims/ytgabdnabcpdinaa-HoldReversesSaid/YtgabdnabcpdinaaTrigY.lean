/- Atan2, Asin and Hypot of package trig: what each call returns. -/
import Derived.Test.YtgabdnabcpdinaaTrigX
namespace Go.Proofs.Ytgabdnabcpdinaa
open Go.RowKit Fdk
set_option linter.unusedVariables false

theorem abs_any (a : Int) (w : World) (h0 : -4611686018427387904 ≤ a) (h1 : a ≤ 4611686018427387904) :
    Calls Try.prog 45 #[.int .i64 a] w fun e w' => e = .returned (.int .i64 (iabs a)) ∧ w = w' := by
  by_cases h : a < 0
  · have hq : Hid (iabs a = -a) := by show iabs a = _; unfold iabs; rw [if_pos h]
    go_enter Try.func45, Try.ntmps45
    go_wp2
    go_ret
    exact ⟨ret_i64 hq.out.symm, rfl⟩
  · have hq : Hid (iabs a = a) := by show iabs a = _; unfold iabs; rw [if_neg h]
    go_enter Try.func45, Try.ntmps45
    go_wp2
    go_ret
    exact ⟨ret_i64 hq.out.symm, rfl⟩
def isOut (x : Int) : Bool := decide (2147483647 < x ∨ x < -2147483647)
theorem isOut_no {x : Int} (h0 : -2147483647 ≤ x) (h1 : x ≤ 2147483647) : isOut x = false := by unfold isOut; simp; omega
theorem isOut_yes {x : Int} (h : ¬ (-2147483647 ≤ x ∧ x ≤ 2147483647)) : isOut x = true := by unfold isOut; simp; omega

abbrev TwoInts (a b : Int) : Ending := .returned (.tuple #[.int .i64 a, .int .i64 b])
theorem iabs_b {x : Int} (h0 : -2147483647 ≤ x) (h1 : x ≤ 2147483647) : 0 ≤ iabs x ∧ iabs x ≤ 2147483647 := by unfold iabs; split <;> omega
theorem ones_new (w : World) (x y : Value) (t u : TypeId) : One ((w.alloc (.cells #[x] t)).alloc (.cells #[y] u)) w.heap.size x ∧ One ((w.alloc (.cells #[x] t)).alloc (.cells #[y] u)) (w.heap.size + 1) y :=
  ⟨(one_new w x t).alloc _, by have := one_new (w.alloc (.cells #[x] t)) y u; simpa using this⟩
end Go.Proofs.Ytgabdnabcpdinaa
