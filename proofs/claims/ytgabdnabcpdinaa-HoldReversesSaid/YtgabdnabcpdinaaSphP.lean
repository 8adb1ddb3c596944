/- Vectors of positions have nearly the length One; positions of vectors are valid. -/
import Derived.Test.YtgabdnabcpdinaaSphB
import Derived.Test.YtgabdnabcpdinaaVelP
namespace Go.Proofs.Ytgabdnabcpdinaa
open Go.RowKit Go.Joins Fdk
set_option linter.unusedVariables false

theorem rd_err (x : Int) : ∃ e, 1073741824 * rd x = x + e ∧ -536870912 ≤ e ∧ e ≤ 536870912 := ⟨1073741824 * rd x - x, by omega, by unfold rd; omega, by unfold rd; omega⟩
theorem mul_nnsq (x : Int) : 0 ≤ x * x := by rcases Int.le_total 0 x with k | k; exact Int.mul_nonneg k k; exact Int.mul_nonneg_of_nonpos_of_nonpos k k
end Go.Proofs.Ytgabdnabcpdinaa
