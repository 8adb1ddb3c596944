/- Package sphere and its reference: the position of a vector. -/
import Derived.Test.YtgabdnabcpdinaaSphA
import Derived.Test.YtgabdnabcpdinaaTrigS
import Derived.LoopN
import Derived.ChangeKeysEq
namespace Go.Proofs.Ytgabdnabcpdinaa
open Go.RowKit Go.Joins Fdk
set_option linter.unusedVariables false

def big (x : Int) : Bool := decide (x > 1342177280) || decide (x < -1342177280)
abbrev Ps3 (c : Int × Int × Int) : Ending := .returned (.tuple #[posV c.1 c.2.1, .int .i64 c.2.2])
theorem ps3 {c d : Int × Int × Int} (h : c = d) : Ps3 c = Ps3 d := by rw [h]
theorem big_cases (x : Int) : (x > 1342177280 ∧ Hid (big x = true)) ∨ ((¬ x > 1342177280) ∧ x < -1342177280 ∧ Hid (big x = true)) ∨ ((¬ x > 1342177280) ∧ (¬ x < -1342177280) ∧ Hid (big x = false)) := by
  by_cases h1 : x > 1342177280
  · exact .inl ⟨h1, Lib.hid (by simp [big, h1])⟩
  · by_cases h2 : x < -1342177280
    · exact .inr (.inl ⟨h1, h2, Lib.hid (by simp [big, h2])⟩)
    · exact .inr (.inr ⟨h1, h2, Lib.hid (by simp [big, h1, h2])⟩)
theorem zero_cases (x y z : Int) : ((x == 0) = false ∧ Hid (¬ (x = 0 ∧ y = 0 ∧ z = 0))) ∨ (x = 0 ∧ (y == 0) = false ∧ Hid (¬ (x = 0 ∧ y = 0 ∧ z = 0))) ∨ (x = 0 ∧ y = 0 ∧ (z == 0) = false ∧ Hid (¬ (x = 0 ∧ y = 0 ∧ z = 0))) ∨ (x = 0 ∧ y = 0 ∧ z = 0) := by
  by_cases h1 : x = 0
  · by_cases h2 : y = 0
    · by_cases h3 : z = 0
      · exact .inr (.inr (.inr ⟨h1, h2, h3⟩))
      · exact .inr (.inr (.inl ⟨h1, h2, by rw [beq_eq_false_iff_ne]; exact h3, Lib.hid (fun h => h3 h.2.2)⟩))
    · exact .inr (.inl ⟨h1, by rw [beq_eq_false_iff_ne]; exact h2, Lib.hid (fun h => h2 h.2.1)⟩)
  · exact .inl ⟨by rw [beq_eq_false_iff_ne]; exact h1, Lib.hid (fun h => h1 h.1)⟩

end Go.Proofs.Ytgabdnabcpdinaa
