/- Vectors of positions have nearly the length One; positions of vectors are valid. -/
import Derived.Test.YtpgpdglmgpjhlaaSphB
import Derived.Test.YtpgpdglmgpjhlaaVelP
namespace Go.Proofs.Ytpgpdglmgpjhlaa
open Go.RowKit Go.Joins Fdk
set_option linter.unusedVariables false

theorem rd_err (x : Int) : ∃ e, 1073741824 * rd x = x + e ∧ -536870912 ≤ e ∧ e ≤ 536870912 := ⟨1073741824 * rd x - x, by omega, by unfold rd; omega, by unfold rd; omega⟩
theorem mul_nnsq (x : Int) : 0 ≤ x * x := by rcases Int.le_total 0 x with k | k; exact Int.mul_nonneg k k; exact Int.mul_nonneg_of_nonpos_of_nonpos k k
/-- the square of the length of a position's vector. -/
theorem norm_b (p q : Int) : 1152921504606846976 - 12884901888 ≤ rd (cn p * cn q) * rd (cn p * cn q) + rd (cn p * sn q) * rd (cn p * sn q) + sn p * sn p ∧
    rd (cn p * cn q) * rd (cn p * cn q) + rd (cn p * sn q) * rd (cn p * sn q) + sn p * sn p ≤ 1152921504606846976 + 12884901888 := by
  obtain ⟨e, he, e2, e3⟩ := rd_err (cn p * cn q)
  obtain ⟨f, hf, f2, f3⟩ := rd_err (cn p * sn q)
  have h1 := sq_all q
  have h2 := sq_all p
  have hs := absum2 q
  have cb := cn_b p
  generalize rd (cn p * cn q) = A at *
  generalize rd (cn p * sn q) = B at *
  generalize cn p = c at *
  generalize sn p = s at *
  generalize cn q = C at *
  generalize sn q = S at *
  have x1 := mul_ab (a := C) e2 e3 (by omega)
  have x2 := mul_ab (a := S) f2 f3 (by omega)
  have iC := iabs_nn C
  have iS := iabs_nn S
  have X : -864691128455135232 ≤ C * e + S * f ∧ C * e + S * f ≤ 864691128455135232 := by
    generalize iabs C = a at *
    generalize iabs S = b at *
    generalize C * e = y at *
    generalize S * f = z at *
    omega
  have key : 1152921504606846976 * (A * A + B * B) = c * c * (S * S + C * C) + 2 * (c * (C * e + S * f)) + (e * e + f * f) := by
    have k1 : (1073741824 * A) * (1073741824 * A) = (c * C + e) * (c * C + e) := by rw [he]
    have k2 : (1073741824 * B) * (1073741824 * B) = (c * S + f) * (c * S + f) := by rw [hf]
    grind
  have ee : 0 ≤ e * e ∧ e * e ≤ 288230376151711744 := by
    have h := mul_ab (a := e) e2 e3 (by omega)
    have h2 : iabs e ≤ 536870912 := by unfold iabs; split <;> omega
    have h3 := mul_nnsq e
    generalize e * e = y at *
    omega
  have ff : 0 ≤ f * f ∧ f * f ≤ 288230376151711744 := by
    have h := mul_ab (a := f) f2 f3 (by omega)
    have h2 : iabs f ≤ 536870912 := by unfold iabs; split <;> omega
    have h3 := mul_nnsq f
    generalize f * f = y at *
    omega
  have cc : 0 ≤ c * c ∧ c * c ≤ 1152921504606846976 := ⟨mul_nnsq c, (one_b cb.1 cb.2 cb.1 cb.2).2⟩
  have cx := mul_ab (a := c * 1) (e := C * e + S * f) (M := 864691128455135232) X.1 X.2 (by omega)
  have ic : iabs (c * 1) ≤ 1073741824 := by rw [Int.mul_one]; unfold iabs; split <;> omega
  have ic0 := iabs_nn (c * 1)
  rw [Int.mul_one] at cx ic ic0
  have hA : ∃ d, S * S + C * C = 1152921504606846976 + d ∧ -5368709120 ≤ d ∧ d ≤ 5368709120 := ⟨S * S + C * C - 1152921504606846976, by omega, by have := h1.1; omega, by have := h1.2; omega⟩
  obtain ⟨d, hd, d0, d1⟩ := hA
  have k3 : c * c * (1152921504606846976 + d) = c * c * 1152921504606846976 + c * c * d := Int.mul_add _ _ _
  rw [hd, k3] at key
  have cd0 : c * c * -5368709120 ≤ c * c * d := Int.mul_le_mul_of_nonneg_left d0 cc.1
  have cd1 : c * c * d ≤ c * c * 5368709120 := Int.mul_le_mul_of_nonneg_left d1 cc.1
  have g1 := h2.1
  have g2 := h2.2
  clear h1 h2 hd he hf x1 x2 iC iS hs e2 e3 f2 f3 d0 d1
  generalize C * e + S * f = x at *
  generalize c * x = cx' at *
  generalize c * c * d = cd at *
  generalize c * c = c2 at *
  generalize s * s = s2 at *
  generalize e * e = y at *
  generalize f * f = z at *
  generalize iabs c = ic' at *
  generalize A * A = A2 at *
  generalize B * B = B2 at *
  omega
theorem hyp_bb {x : Int} (h0 : -2147483647 ≤ x) (h1 : x ≤ 2147483647) : 0 ≤ x * x ∧ x * x ≤ 4611686014132420609 := by
  rcases Int.lt_or_le x 0 with h | h
  · have a := Int.mul_le_mul (show -x ≤ 2147483647 by omega) (show -x ≤ 2147483647 by omega) (by omega) (by omega)
    have b := Int.mul_nonneg (show 0 ≤ -x by omega) (show 0 ≤ -x by omega)
    rw [Int.neg_mul_neg] at a b; omega
  · have a := Int.mul_le_mul h1 h1 h (by omega)
    have b := Int.mul_nonneg h h
    omega
theorem hy_nn (x y : Int) : 0 ≤ (hy x y).1 := by
  unfold hy
  split
  · rename_i h
    have h' : (-2147483647 ≤ y ∧ y ≤ 2147483647) ∧ (-2147483647 ≤ x ∧ x ≤ 2147483647) := of_decide_eq_true h
    have hx := hyp_bb h'.2.1 h'.2.2
    have hy := hyp_bb h'.1.1 h'.1.2
    exact (isq_ok (by omega) (by omega)).1
  · exact Int.le_refl _
theorem posn_valid (x y z : Int) : vd (posn x y z).1 (posn x y z).2.1 = true := by
  unfold posn
  split
  · decide
  · have h := hy_nn x y
    generalize (hy x y).1 = H at *
    have b := adiff_b 0 (a2 y x).1
    have k : -32400000 ≤ adiff 0 (a2 z H).1 ∧ adiff 0 (a2 z H).1 ≤ 32400000 := by
      have q := atq_b z H
      unfold a2 at2 adiff
      repeat' split
      all_goals simp only [] at *
      all_goals omega
    simp only [vd, Bool.and_eq_true, decide_eq_true_eq]
    omega
end Go.Proofs.Ytpgpdglmgpjhlaa
