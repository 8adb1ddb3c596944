/- The course is never asked of two nothings: where the two components are nothing, the positions are the same or opposite. -/
import Derived.Test.YtpgpdglmgpjhlaaSphQ
namespace Go.Proofs.Ytpgpdglmgpjhlaa
open Go.RowKit Go.Joins Fdk
set_option linter.unusedVariables false
theorem pb {p q A B : Int} (M : Int) (hp : -A ≤ p ∧ p ≤ A) (hq : -B ≤ q ∧ q ≤ B) (hA : 0 ≤ A) (hM : M = A * B) : -M ≤ p * q ∧ p * q ≤ M := by
  subst hM
  have hB : 0 ≤ B := by omega
  rcases Int.le_total 0 p with k | k
  · have k1 : p * q ≤ p * B := Int.mul_le_mul_of_nonneg_left hq.2 k
    have k2 : p * -B ≤ p * q := Int.mul_le_mul_of_nonneg_left hq.1 k
    have k3 : p * B ≤ A * B := Int.mul_le_mul_of_nonneg_right hp.2 hB
    rw [Int.mul_neg] at k2
    omega
  · have k1 : -p * q ≤ -p * B := Int.mul_le_mul_of_nonneg_left hq.2 (by omega)
    have k2 : -p * -B ≤ -p * q := Int.mul_le_mul_of_nonneg_left hq.1 (by omega)
    have k3 : -p * B ≤ A * B := Int.mul_le_mul_of_nonneg_right (by omega) hB
    have e : -p * q = -(p * q) := Int.neg_mul p q
    rw [Int.mul_neg] at k2
    omega
/-- the cross product of a position's vector and another one is small where the components to the east and the north are. -/
theorem cross_small (a b x y z : Int) (hx : -1073741824 ≤ x ∧ x ≤ 1073741824) (hy : -1073741824 ≤ y ∧ y ≤ 1073741824) (hz : -1073741824 ≤ z ∧ z ≤ 1073741824)
    (hα : -536870912 ≤ -sn b * x + cn b * y ∧ -sn b * x + cn b * y ≤ 536870912) (hβ : -536870912 ≤ -rd (sn a * cn b) * x + -rd (sn a * sn b) * y + cn a * z ∧ -rd (sn a * cn b) * x + -rd (sn a * sn b) * y + cn a * z ≤ 536870912) :
    (-8589934592 ≤ rd (cn a * sn b) * z - sn a * y ∧ rd (cn a * sn b) * z - sn a * y ≤ 8589934592) ∧ (-8589934592 ≤ sn a * x - rd (cn a * cn b) * z ∧ sn a * x - rd (cn a * cn b) * z ≤ 8589934592) ∧
    (-8589934592 ≤ rd (cn a * cn b) * y - rd (cn a * sn b) * x ∧ rd (cn a * cn b) * y - rd (cn a * sn b) * x ≤ 8589934592) := by
  obtain ⟨e0, h0, a0, b0⟩ := rd_err (cn a * cn b)
  obtain ⟨e1, h1, a1, b1⟩ := rd_err (cn a * sn b)
  obtain ⟨e2, h2, a2, b2⟩ := rd_err (sn a * cn b)
  obtain ⟨e3, h3, a3, b3⟩ := rd_err (sn a * sn b)
  have hq := sq_all b
  unfold SqOk at hq
  have bC := cn_b a
  have bS := sn_b a
  have bc := cn_b b
  have bs := sn_b b
  generalize rd (cn a * cn b) = u0 at *
  generalize rd (cn a * sn b) = u1 at *
  generalize rd (sn a * cn b) = n0 at *
  generalize rd (sn a * sn b) = n1 at *
  generalize cn a = C at *
  generalize sn a = S at *
  generalize cn b = c at *
  generalize sn b = s at *
  obtain ⟨e4, h4, a4, b4⟩ : ∃ e4, c * c + s * s = 1152921504606846976 + e4 ∧ -5368709120 ≤ e4 ∧ e4 ≤ 5368709120 := ⟨c * c + s * s - 1152921504606846976, by omega, by omega, by omega⟩
  generalize hA : -s * x + c * y = α at *
  generalize hB : -n0 * x + -n1 * y + C * z = β at *
  have E0 := pb (576460752303423488) ⟨a0, b0⟩ hz (by omega) (by decide)
  have E1 := pb (576460752303423488) ⟨a1, b1⟩ hz (by omega) (by decide)
  have E2 := pb (576460752303423488) ⟨a2, b2⟩ hx (by omega) (by decide)
  have E3 := pb (576460752303423488) ⟨a3, b3⟩ hy (by omega) (by decide)
  have E5 := pb (576460752303423488) ⟨a0, b0⟩ hy (by omega) (by decide)
  have E6 := pb (576460752303423488) ⟨a1, b1⟩ hx (by omega) (by decide)
  have Sy := pb (1152921504606846976) bS hy (by omega) (by decide)
  have Sx := pb (1152921504606846976) bS hx (by omega) (by decide)
  have G0 := pb (6189700196426901374495621120) ⟨a4, b4⟩ Sy (by omega) (by decide)
  have G1 := pb (6189700196426901374495621120) ⟨a4, b4⟩ Sx (by omega) (by decide)
  have Ca := pb (576460752303423488) bC hα (by omega) (by decide)
  have Sc := pb (1152921504606846976) bS bc (by omega) (by decide)
  have Ss := pb (1152921504606846976) bS bs (by omega) (by decide)
  have G2 := pb (618970019642690137449562112) Sc hα (by omega) (by decide)
  have G3 := pb (618970019642690137449562112) Ss hα (by omega) (by decide)
  have sB := pb (576460752303423488) bs hβ (by omega) (by decide)
  have cB := pb (576460752303423488) bc hβ (by omega) (by decide)
  have E23 : -1152921504606846976 ≤ e2 * x + e3 * y ∧ e2 * x + e3 * y ≤ 1152921504606846976 := by omega
  have G4 := pb (1237940039285380274899124224) bs E23 (by omega) (by decide)
  have G5 := pb (1237940039285380274899124224) bc E23 (by omega) (by decide)
  have I0 : 1152921504606846976 * (u1 * z - S * y) = 1073741824 * (s * β) + 1073741824 * (e1 * z) + e4 * (S * y) - S * c * α + s * (e2 * x + e3 * y) := by
    subst hA hB; grind
  have I1 : 1152921504606846976 * (S * x - u0 * z) = -(1073741824 * (c * β)) - 1073741824 * (e0 * z) - e4 * (S * x) - S * s * α - c * (e2 * x + e3 * y) := by
    subst hA hB; grind
  have I2 : 1073741824 * (u0 * y - u1 * x) = C * α + e0 * y - e1 * x := by
    subst hA; grind
  generalize u1 * z - S * y = W0 at *
  generalize S * x - u0 * z = W1 at *
  generalize u0 * y - u1 * x = W2 at *
  generalize e0 * z = t0 at *
  generalize e1 * z = t1 at *
  generalize e0 * y = t2 at *
  generalize e1 * x = t3 at *
  generalize e4 * (S * y) = t4 at *
  generalize e4 * (S * x) = t5 at *
  generalize s * β = t6 at *
  generalize c * β = t7 at *
  generalize S * c * α = t8 at *
  generalize S * s * α = t9 at *
  generalize C * α = t10 at *
  generalize s * (e2 * x + e3 * y) = t11 at *
  generalize c * (e2 * x + e3 * y) = t12 at *
  clear h0 h1 h2 h3 h4 hA hB hq
  omega
theorem sn_600 : sn 600 ≥ 31000 := by unfold sn; decide +kernel
theorem ata_small {m n : Int} (hn : 0 ≤ n) (hn1 : n ≤ 15) (hm : 536870000 ≤ m) : ata m n < 600 := by
  refine Classical.byContradiction fun hc => ?_
  have b := ata_b m n
  have h := ata_ok (m := m) hn
  have h1 := sn_mono (a := 600) (b := ata m n) (by omega) (by omega) (by omega)
  have h2 := sn_600
  have hc := cn_b (ata m n)
  have k1 : 31000 * 536870000 ≤ sn (ata m n) * m := Int.mul_le_mul (by omega) hm (by omega) (by omega)
  have k2 : cn (ata m n) * n ≤ 1073741824 * 15 := Int.le_trans (Int.mul_le_mul_of_nonneg_right hc.2 hn) (Int.mul_le_mul_of_nonneg_left hn1 (by omega))
  omega
theorem at2_small {y x : Int} (h0 : 0 ≤ y) (h1 : y ≤ 15) (hx : 536870000 ≤ x ∨ x ≤ -536870000) : at2 y x < 600 ∨ at2 y x > 64799400 := by
  have hq : atq y x < 600 := by
    have iy : iabs y = y := by unfold iabs; rw [if_neg (by omega)]
    have ix : 536870000 ≤ iabs x := by unfold iabs; split <;> omega
    unfold atq
    rw [if_neg (by omega), iy]
    rw [show max (iabs x) y = iabs x by omega, show min (iabs x) y = y by omega]
    exact ata_small h0 h1 ix
  have b := atq_b y x
  unfold at2
  rcases hx with k | k
  · rw [if_pos ⟨by omega, h0⟩]; omega
  · rw [if_neg (by omega), if_pos h0]; omega
/-- positions whose local components are nothing are near or opposite. -/
theorem crs_zero (a b x y z : Int) (h2 : Unit3 x y z) (hx : -1073741824 ≤ x ∧ x ≤ 1073741824) (hy : -1073741824 ≤ y ∧ y ≤ 1073741824) (hz : -1073741824 ≤ z ∧ z ≤ 1073741824)
    (hα : rd (-sn b * x + cn b * y) = 0) (hβ : rd (-rd (sn a * cn b) * x + -rd (sn a * sn b) * y + cn a * z) = 0) :
    (fun d => d < 600 ∨ d > 64799400) (a2 (isq (csum (rd (cn a * sn b) * z - sn a * y) (sn a * x - rd (cn a * cn b) * z) (rd (cn a * cn b) * y - rd (cn a * sn b) * x))) (rd (rd (cn a * cn b) * x + rd (cn a * sn b) * y + sn a * z))).1 := by
  have h1 : Unit3 (rd (cn a * cn b)) (rd (cn a * sn b)) (sn a) := norm_b a b
  obtain ⟨w0, w1, w2⟩ := cross_small a b x y z hx hy hz (rd_zero2 hα) (rd_zero2 hβ)
  obtain ⟨_, _, _, bD, s0, s1, hn⟩ := dist_b h1 h2
  have L := lagrange (rd (cn a * cn b)) (rd (cn a * sn b)) (sn a) x y z
  have lo : (1152921504606846976 - 12884901888) * (1152921504606846976 - 12884901888) ≤ (rd (cn a * cn b) * rd (cn a * cn b) + rd (cn a * sn b) * rd (cn a * sn b) + sn a * sn a) * (x * x + y * y + z * z) := Int.mul_le_mul h1.1 h2.1 (by omega) (by have := h1.1; omega)
  have hi := isq_small s0 s1
  generalize (rd (cn a * cn b) * rd (cn a * cn b) + rd (cn a * sn b) * rd (cn a * sn b) + sn a * sn a) * (x * x + y * y + z * z) = NN at *
  generalize rd (cn a * sn b) * z - sn a * y = W0 at *
  generalize sn a * x - rd (cn a * cn b) * z = W1 at *
  generalize rd (cn a * cn b) * y - rd (cn a * sn b) * x = W2 at *
  generalize rd (cn a * cn b) * x + rd (cn a * sn b) * y + sn a * z = D at *
  have q0 := pb (73786976294838206464) w0 w0 (by omega) (by decide)
  have q1 := pb (73786976294838206464) w1 w1 (by omega) (by decide)
  have q2 := pb (73786976294838206464) w2 w2 (by omega) (by decide)
  have hD : 576460752303423488 ≤ D ∨ D ≤ -576460752303423488 := by
    refine Classical.byContradiction fun hc => ?_
    have q3 := pb (p := D) (q := D) (A := 576460752303423488) (B := 576460752303423488) (332306998946228968225951765070086144) (by omega) (by omega) (by omega) (by decide)
    omega
  have r0 : 0 ≤ rd (iabs W0) ∧ rd (iabs W0) ≤ 8 := by unfold rd iabs; split <;> omega
  have r1 : 0 ≤ rd (iabs W1) ∧ rd (iabs W1) ≤ 8 := by unfold rd iabs; split <;> omega
  have r2 : 0 ≤ rd (iabs W2) ∧ rd (iabs W2) ≤ 8 := by unfold rd iabs; split <;> omega
  have p0 : rd (iabs W0) * rd (iabs W0) ≤ 8 * 8 := Int.mul_le_mul r0.2 r0.2 r0.1 (by omega)
  have p1 : rd (iabs W1) * rd (iabs W1) ≤ 8 * 8 := Int.mul_le_mul r1.2 r1.2 r1.1 (by omega)
  have p2 : rd (iabs W2) * rd (iabs W2) ≤ 8 * 8 := Int.mul_le_mul r2.2 r2.2 r2.1 (by omega)
  have hc : csum W0 W1 W2 ≤ 192 := by unfold csum; omega
  have hm : isq (csum W0 W1 W2) ≤ 15 := by
    obtain ⟨k0, k3, k1, k2⟩ := isq_ok s0 (by omega)
    refine Classical.byContradiction fun hk => ?_
    have := sq_le (a := 16) (b := isq (csum W0 W1 W2)) (by omega) (by omega)
    omega
  have rD : 536870000 ≤ rd D ∨ rd D ≤ -536870000 := by unfold rd; omega
  have rD2 : -2147483647 ≤ rd D ∧ rd D ≤ 2147483647 := by unfold rd; omega
  have := at2_small hi.1 hm rD
  show (a2 _ _).1 < 600 ∨ (a2 _ _).1 > 64799400
  unfold a2
  rw [if_pos (show fits (isq (csum W0 W1 W2)) (rd D) = true from decide_eq_true ⟨by omega, rD2⟩), if_neg (fun h => by rcases rD with k | k <;> omega)]
  exact this
end Go.Proofs.Ytpgpdglmgpjhlaa
