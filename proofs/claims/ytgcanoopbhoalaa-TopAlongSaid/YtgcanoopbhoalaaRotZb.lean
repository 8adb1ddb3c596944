/- Distances are symmetric, and nothing from a position to itself. -/
import Derived.Test.YtgcanoopbhoalaaRotZ
namespace Go.Proofs.Ytgcanoopbhoalaa
open Go.RowKit Go.Joins Fdk
set_option linter.unusedVariables false
theorem iabs_sub (x y : Int) : iabs (x - y) = iabs (y - x) := by unfold iabs; split <;> split <;> omega
theorem dv_sym (a b c d : Int) : dv a b c d = dv c d a b := by
  rw [dv_at, dv_at]
  unfold csum
  rw [iabs_sub (rd (cn a * sn b) * sn c), iabs_sub (sn a * rd (cn c * cn d)), iabs_sub (rd (cn a * cn b) * rd (cn c * sn d))]
  rw [Int.mul_comm (sn a) (rd (cn c * sn d)), Int.mul_comm (rd (cn a * sn b)) (sn c), Int.mul_comm (rd (cn a * cn b)) (sn c), Int.mul_comm (sn a) (rd (cn c * cn d)), Int.mul_comm (rd (cn a * sn b)) (rd (cn c * cn d)), Int.mul_comm (rd (cn a * cn b)) (rd (cn c * sn d)), Int.mul_comm (rd (cn a * cn b)) (rd (cn c * cn d)), Int.mul_comm (rd (cn a * sn b)) (rd (cn c * sn d)), Int.mul_comm (sn a) (sn c)]
theorem self_core (x y z : Int) (h : Unit3 x y z) : at2 (isq (csum (y * z - z * y) (z * x - x * z) (x * y - y * x))) (rd (x * x + y * y + z * z)) = 0 := by
  rw [Int.mul_comm z y, Int.mul_comm z x, Int.mul_comm y x, Int.sub_self, Int.sub_self, Int.sub_self]
  have c0 : csum 0 0 0 = 0 := by decide +kernel
  have i0 := isq_bd (n := 0) (by omega) (by omega)
  rw [c0]
  have e : isq 0 = 0 := by
    rcases Int.mul_eq_zero.1 (show isq 0 * isq 0 = 0 by have := mul_nnsq (isq 0); omega) with k | k <;> exact k
  rw [e]
  unfold Unit3 at h
  generalize x * x + y * y + z * z = u at *
  have hb := (at2_b 0 (rd u)).1
  have k : at2 0 (rd u) ≤ 0 := by
    refine at2_le _ _ 0 (by omega) (by omega) (by omega) (by unfold rd; omega) ?_
    have s : 0 < sn (0 + 1) := by decide +kernel
    rw [Int.mul_zero]
    exact Int.mul_pos s (by unfold rd; omega)
  omega
theorem dv_self (a b : Int) : dv a b a b = 0 := by
  rw [dv_at]
  exact self_core _ _ _ (norm_b a b)
end Go.Proofs.Ytgcanoopbhoalaa
