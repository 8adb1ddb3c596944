/- Package sphere and its reference: the position of a vector. -/
import Derived.Test.YtpgpdglmgpjhlaaSphA
import Derived.Test.YtpgpdglmgpjhlaaTrigS
import Derived.LoopN
import Derived.ChangeKeysEq
namespace Go.Proofs.Ytpgpdglmgpjhlaa
open Go.RowKit Go.Joins Fdk
set_option linter.unusedVariables false

def fits (y x : Int) : Bool := decide ((-2147483647 ≤ y ∧ y ≤ 2147483647) ∧ (-2147483647 ≤ x ∧ x ≤ 2147483647))
/-- what Atan2 and Hypot return, whatever they are called with. -/
def a2 (y x : Int) : Int × Int := if fits y x then (if y = 0 ∧ x = 0 then (0, 1) else (at2 y x, 0)) else (0, 2)
def hy (x y : Int) : Int × Int := if fits y x then (isq (x * x + y * y), 0) else (0, 2)
theorem a2_b (y x : Int) : 0 ≤ (a2 y x).1 ∧ (a2 y x).1 < 129600000 := by
  have := at2_b y x
  unfold a2; repeat' split
  all_goals simp only []
  all_goals omega
theorem a2_any (y x : Int) (w : World) : Calls Try.prog 13 #[.int .i64 y, .int .i64 x] w fun e w' => e = TwoInts (a2 y x).1 (a2 y x).2 ∧ Below w.heap.size w w' := by
  unfold a2
  by_cases h : (-2147483647 ≤ y ∧ y ≤ 2147483647) ∧ (-2147483647 ≤ x ∧ x ≤ 2147483647)
  · rw [if_pos (show fits y x = true from decide_eq_true h)]
    by_cases hz : y = 0 ∧ x = 0
    · obtain ⟨rfl, rfl⟩ := hz
      exact (at2_zero w).mono fun e w' ⟨he, hw⟩ => ⟨he, hw ▸ Below.refl _ _⟩
    · rw [if_neg hz]
      exact at2_any y x w h.1.1 h.1.2 h.2.1 h.2.2 hz
  · rw [if_neg (by simp only [fits, decide_eq_true_eq]; exact h)]
    exact (at2_out y x w h).mono fun e w' ⟨he, hw⟩ => ⟨he, hw ▸ Below.refl _ _⟩
def big (x : Int) : Bool := decide (x > 1342177280) || decide (x < -1342177280)
abbrev Ps3 (c : Int × Int × Int) : Ending := .returned (.tuple #[posV c.1 c.2.1, .int .i64 c.2.2])
theorem ps3 {c d : Int × Int × Int} (h : c = d) : Ps3 c = Ps3 d := by rw [h]
/-- the position of a vector, and the error. -/
def posn (x y z : Int) : Int × Int × Int :=
  if (big x || (big y || big z)) || decide (x = 0 ∧ y = 0 ∧ z = 0) then (0, 0, 1) else (adiff 0 (a2 z (hy x y).1).1, adiff 0 (a2 y x).1, 0)
theorem big_cases (x : Int) : (x > 1342177280 ∧ Hid (big x = true)) ∨ ((¬ x > 1342177280) ∧ x < -1342177280 ∧ Hid (big x = true)) ∨ ((¬ x > 1342177280) ∧ (¬ x < -1342177280) ∧ Hid (big x = false)) := by
  by_cases h1 : x > 1342177280
  · exact .inl ⟨h1, Lib.hid (by simp [big, h1])⟩
  · by_cases h2 : x < -1342177280
    · exact .inr (.inl ⟨h1, h2, Lib.hid (by simp [big, h2])⟩)
    · exact .inr (.inr ⟨h1, h2, Lib.hid (by simp [big, h1, h2])⟩)
theorem zero_cases (x y z : Int) : ((x == 0) = false ∧ Hid (¬ (x = 0 ∧ y = 0 ∧ z = 0))) ∨ (x = 0 ∧ (y == 0) = false ∧ Hid (¬ (x = 0 ∧ y = 0 ∧ z = 0))) ∨ (x = 0 ∧ y = 0 ∧ (z == 0) = false ∧ Hid (¬ (x = 0 ∧ y = 0 ∧ z = 0))) ∨ (x = 0 ∧ y = 0 ∧ z = 0) := by
  by_cases h1 : x = 0
  · by_cases h2 : y = 0
    · by_cases h3 : z = 0
      · exact .inr (.inr (.inr ⟨h1, h2, h3⟩))
      · exact .inr (.inr (.inl ⟨h1, h2, by rw [beq_eq_false_iff_ne]; exact h3, Lib.hid (fun h => h3 h.2.2)⟩))
    · exact .inr (.inl ⟨h1, by rw [beq_eq_false_iff_ne]; exact h2, Lib.hid (fun h => h2 h.2.1)⟩)
  · exact .inl ⟨by rw [beq_eq_false_iff_ne]; exact h1, Lib.hid (fun h => h1 h.1)⟩

end Go.Proofs.Ytpgpdglmgpjhlaa
