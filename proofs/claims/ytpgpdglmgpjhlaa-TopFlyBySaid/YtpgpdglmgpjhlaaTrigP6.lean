/- Plain facts: the two series against polynomials, and their squares (6). No program in sight. -/
import Derived.Test.YtpgpdglmgpjhlaaTrigP3
import Derived.Test.YtpgpdglmgpjhlaaTrigP5
namespace Fdk
set_option linter.unusedVariables false
/-- the squares of sine and cosine add up to nearly that of One. -/
def SqOk (s c : Int) : Prop := -5368709120 ≤ s * s + c * c - 1152921504606846976 ∧ s * s + c * c - 1152921504606846976 ≤ 5368709120
theorem sqok_swap {s c : Int} (h : SqOk s c) : SqOk c s := by unfold SqOk at *; rw [Int.add_comm (c * c)]; exact h
theorem sqok_neg1 {s c : Int} (h : SqOk s c) : SqOk (-s) c := by unfold SqOk at *; rw [Int.neg_mul_neg]; exact h
theorem sqok_neg2 {s c : Int} (h : SqOk s c) : SqOk s (-c) := by unfold SqOk at *; rw [Int.neg_mul_neg c]; exact h
theorem cn_e {b : Int} (h0 : 0 ≤ b) (h1 : b < 16200000) : cn b = cosine b := by
  rw [← sn_q, sn_1 (by omega) (by omega)]; unfold qsin; rw [if_neg (by omega)]; congr 1; omega
theorem sn_es {b : Int} (h0 : 0 ≤ b) (h1 : b ≤ 16200000) : sn b = sine b := by
  rw [sn_1 h0 (by omega)]; unfold qsin; rw [if_pos h1]
theorem sq_oct {b : Int} (h0 : 0 ≤ b) (h1 : b ≤ 16200000) : SqOk (sn b) (cn b) := by
  by_cases h : b = 16200000
  · subst h; rw [sn_E, cn_E]; unfold SqOk; decide
  · rw [sn_es h0 h1, cn_e h0 (by omega)]; exact squares h0 h1
theorem sq_quad {b : Int} (h0 : 0 ≤ b) (h1 : b ≤ 32400000) : SqOk (sn b) (cn b) := by
  by_cases h : b ≤ 16200000
  · exact sq_oct h0 h
  · have := sq_oct (b := 32400000 - b) (by omega) (by omega)
    rw [sn_q, cn_q] at this; exact sqok_swap this
theorem sq_all (a : Int) : SqOk (sn a) (cn a) := by
  rw [← sn_mod, ← cn_mod]
  obtain ⟨b, hb, h⟩ := quad a
  rw [hb]
  rcases h with h | h | h | h
  · exact sq_quad h.1 h.2
  · have := sq_quad (b := 64800000 - b) (by omega) (by omega)
    rw [sn_mirror, cn_mirror] at this
    have := sqok_neg2 this; rwa [Int.neg_neg] at this
  · have := sq_quad (b := b - 64800000) (by omega) (by omega)
    have e1 : sn b = - sn (b - 64800000) := by have := sn_half (b - 64800000); rw [← this]; congr 1; omega
    have e2 : cn b = - cn (b - 64800000) := by have := cn_half (b - 64800000); rw [← this]; congr 1; omega
    rw [e1, e2]; exact sqok_neg1 (sqok_neg2 this)
  · have := sq_quad (b := 129600000 - b) (by omega) (by omega)
    have e1 : sn b = - sn (129600000 - b) := by rw [← sn_neg]; exact sn_of (by omega)
    have e2 : cn b = cn (129600000 - b) := by rw [← cn_neg, ← cn_mod, ← cn_mod (129600000 - b)]; congr 1; omega
    rw [e1, e2]; exact sqok_neg1 this
end Fdk
