/- Plain facts: the two series against polynomials, and their squares (6). No program in sight. -/
import Derived.Test.YtgabdnabcpdinaaTrigP3
import Derived.Test.YtgabdnabcpdinaaTrigP5
namespace Fdk
set_option linter.unusedVariables false
/-- the squares of sine and cosine add up to nearly that of One. -/
def SqOk (s c : Int) : Prop := -5368709120 ≤ s * s + c * c - 1152921504606846976 ∧ s * s + c * c - 1152921504606846976 ≤ 5368709120
theorem sqok_swap {s c : Int} (h : SqOk s c) : SqOk c s := by unfold SqOk at *; rw [Int.add_comm (c * c)]; exact h
theorem sqok_neg1 {s c : Int} (h : SqOk s c) : SqOk (-s) c := by unfold SqOk at *; rw [Int.neg_mul_neg]; exact h
theorem sqok_neg2 {s c : Int} (h : SqOk s c) : SqOk s (-c) := by unfold SqOk at *; rw [Int.neg_mul_neg c]; exact h
theorem cn_e {b : Int} (h0 : 0 ≤ b) (h1 : b < 16200000) : cn b = cosine b := by
  rw [← sn_q, sn_1 (by omega) (by omega)]; unfold qsin; rw [if_neg (by omega)]; congr 1; omega
theorem sn_es {b : Int} (h0 : 0 ≤ b) (h1 : b ≤ 16200000) : sn b = sine b := by
  rw [sn_1 h0 (by omega)]; unfold qsin; rw [if_pos h1]
end Fdk
