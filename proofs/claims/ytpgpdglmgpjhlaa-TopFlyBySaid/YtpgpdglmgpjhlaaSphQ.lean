/- The cross product and the scalar product of two vectors of nearly the length One: bounds, and not both nothing. -/
import Derived.Test.YtpgpdglmgpjhlaaSphP
namespace Go.Proofs.Ytpgpdglmgpjhlaa
open Go.RowKit Go.Joins Fdk
set_option linter.unusedVariables false

/-- the square of a vector's length is near that of One. -/
def Unit3 (x y z : Int) : Prop := 1152921504606846976 - 12884901888 ≤ x * x + y * y + z * z ∧ x * x + y * y + z * z ≤ 1152921504606846976 + 12884901888
def csum (c0 c1 c2 : Int) : Int := rd (iabs c0) * rd (iabs c0) + rd (iabs c1) * rd (iabs c1) + rd (iabs c2) * rd (iabs c2)
theorem lagrange (a b c x y z : Int) : (b * z - c * y) * (b * z - c * y) + (c * x - a * z) * (c * x - a * z) + (a * y - b * x) * (a * y - b * x) + (a * x + b * y + c * z) * (a * x + b * y + c * z) = (a * a + b * b + c * c) * (x * x + y * y + z * z) := by grind
theorem abs_sq_le {u M : Int} (hM : 0 ≤ M) (h : u * u ≤ M * M) : -M ≤ u ∧ u ≤ M := by
  constructor
  · refine Classical.byContradiction fun hc => ?_
    have := sq_le (a := M + 1) (b := -u) (by omega) (by omega)
    have e : -u * -u = u * u := Int.neg_mul_neg u u
    have e2 : (M + 1) * (M + 1) = M * M + 2 * M + 1 := by grind
    omega
  · refine Classical.byContradiction fun hc => ?_
    have := sq_le (a := M + 1) (b := u) (by omega) (by omega)
    have e2 : (M + 1) * (M + 1) = M * M + 2 * M + 1 := by grind
    omega
theorem rd_abs {u : Int} (h : -1152921517491748864 ≤ u ∧ u ≤ 1152921517491748864) : 0 ≤ rd (iabs u) ∧ rd (iabs u) ≤ 1073741836 := by
  unfold rd iabs; split <;> omega
theorem rd_zero {u : Int} (h : rd (iabs u) = 0) : -536870912 ≤ u ∧ u ≤ 536870912 := by
  unfold rd iabs at h; split at h <;> omega
theorem rd_zero2 {u : Int} (h : rd u = 0) : -536870912 ≤ u ∧ u ≤ 536870912 := by
  unfold rd at h; omega
theorem sq_small {u : Int} (h : -536870912 ≤ u ∧ u ≤ 536870912) : u * u ≤ 288230376151711744 := by
  have k := mul_ab (a := u) (e := u) (M := 536870912) h.1 h.2 (by omega)
  have h2 : iabs u ≤ 536870912 := by unfold iabs; split <;> omega
  omega
theorem dist_b {a b c x y z : Int} (h1 : Unit3 a b c) (h2 : Unit3 x y z) :
    (-1152921517491748864 ≤ b * z - c * y ∧ b * z - c * y ≤ 1152921517491748864) ∧ (-1152921517491748864 ≤ c * x - a * z ∧ c * x - a * z ≤ 1152921517491748864) ∧ (-1152921517491748864 ≤ a * y - b * x ∧ a * y - b * x ≤ 1152921517491748864) ∧
    (-1152921517491748864 ≤ a * x + b * y + c * z ∧ a * x + b * y + c * z ≤ 1152921517491748864) ∧
    0 ≤ csum (b * z - c * y) (c * x - a * z) (a * y - b * x) ∧ csum (b * z - c * y) (c * x - a * z) (a * y - b * x) ≤ 3458764597000000000 ∧
    ¬ (csum (b * z - c * y) (c * x - a * z) (a * y - b * x) = 0 ∧ rd (a * x + b * y + c * z) = 0) := by
  have L := lagrange a b c x y z
  obtain ⟨m0, m1⟩ := h1
  obtain ⟨n0, n1⟩ := h2
  have up : (a * a + b * b + c * c) * (x * x + y * y + z * z) ≤ 1152921517491748864 * 1152921517491748864 := Int.mul_le_mul m1 n1 (by omega) (by omega)
  have lo : (1152921504606846976 - 12884901888) * (1152921504606846976 - 12884901888) ≤ (a * a + b * b + c * c) * (x * x + y * y + z * z) := Int.mul_le_mul m0 n0 (by omega) (by omega)
  generalize (a * a + b * b + c * c) * (x * x + y * y + z * z) = NN at *
  generalize b * z - c * y = u at *
  generalize c * x - a * z = v at *
  generalize a * y - b * x = t at *
  generalize a * x + b * y + c * z = D at *
  have su := mul_nnsq u
  have sv := mul_nnsq v
  have st := mul_nnsq t
  have sD := mul_nnsq D
  have bu := abs_sq_le (u := u) (M := 1152921517491748864) (by omega) (by omega)
  have bv := abs_sq_le (u := v) (M := 1152921517491748864) (by omega) (by omega)
  have bt := abs_sq_le (u := t) (M := 1152921517491748864) (by omega) (by omega)
  have bD := abs_sq_le (u := D) (M := 1152921517491748864) (by omega) (by omega)
  refine ⟨bu, bv, bt, bD, ?_⟩
  have ru := rd_abs bu
  have rv := rd_abs bv
  have rt := rd_abs bt
  have qu := mul_nnsq (rd (iabs u))
  have qv := mul_nnsq (rd (iabs v))
  have qt := mul_nnsq (rd (iabs t))
  have pu : rd (iabs u) * rd (iabs u) ≤ 1073741836 * 1073741836 := Int.mul_le_mul ru.2 ru.2 ru.1 (by omega)
  have pv : rd (iabs v) * rd (iabs v) ≤ 1073741836 * 1073741836 := Int.mul_le_mul rv.2 rv.2 rv.1 (by omega)
  have pt : rd (iabs t) * rd (iabs t) ≤ 1073741836 * 1073741836 := Int.mul_le_mul rt.2 rt.2 rt.1 (by omega)
  have z0 : ∀ r : Int, 0 ≤ r → r * r = 0 → r = 0 := fun r _ h => by rcases Int.mul_eq_zero.1 h with k | k <;> exact k
  unfold csum
  refine ⟨by omega, by omega, fun ⟨hs, hD⟩ => ?_⟩
  have eu := rd_zero (z0 _ ru.1 (by omega))
  have ev := rd_zero (z0 _ rv.1 (by omega))
  have et := rd_zero (z0 _ rt.1 (by omega))
  have eD := rd_zero2 hD
  have k1 := sq_small eu
  have k2 := sq_small ev
  have k3 := sq_small et
  have k4 := sq_small eD
  omega
theorem isq_small {n : Int} (h0 : 0 ≤ n) (h1 : n ≤ 3458764597000000000) : 0 ≤ isq n ∧ isq n ≤ 2147483647 ∧ (isq n = 0 → n = 0) := by
  obtain ⟨k0, _, k1, k2⟩ := isq_ok h0 (by omega)
  refine ⟨k0, ?_, fun h => ?_⟩
  · refine Classical.byContradiction fun hc => ?_
    have := sq_le (a := 2147483648) (b := isq n) (by omega) (by omega)
    omega
  · rw [h] at k2; omega
/-- Atan2 of the two answers with an angle. -/
theorem dist_ok {a b c x y z : Int} (h1 : Unit3 a b c) (h2 : Unit3 x y z) :
    (a2 (isq (csum (b * z - c * y) (c * x - a * z) (a * y - b * x))) (rd (a * x + b * y + c * z))).2 = 0 := by
  obtain ⟨_, _, _, bD, s0, s1, hz⟩ := dist_b h1 h2
  have hi := isq_small s0 s1
  have rD : -2147483647 ≤ rd (a * x + b * y + c * z) ∧ rd (a * x + b * y + c * z) ≤ 2147483647 := by unfold rd; omega
  generalize rd (a * x + b * y + c * z) = X at *
  generalize csum (b * z - c * y) (c * x - a * z) (a * y - b * x) = S at *
  unfold a2
  rw [if_pos (show fits (isq S) X = true from decide_eq_true ⟨by omega, rD⟩), if_neg (fun h => hz ⟨hi.2.2 h.1, h.2⟩)]
end Go.Proofs.Ytpgpdglmgpjhlaa
