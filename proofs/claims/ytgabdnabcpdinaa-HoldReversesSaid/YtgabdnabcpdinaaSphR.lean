/- The course is never asked of two nothings: where the two components are nothing, the positions are the same or opposite. -/
import Derived.Test.YtgabdnabcpdinaaSphQ
namespace Go.Proofs.Ytgabdnabcpdinaa
open Go.RowKit Go.Joins Fdk
set_option linter.unusedVariables false
theorem pb {p q A B : Int} (M : Int) (hp : -A ≤ p ∧ p ≤ A) (hq : -B ≤ q ∧ q ≤ B) (hA : 0 ≤ A) (hM : M = A * B) : -M ≤ p * q ∧ p * q ≤ M := by
  subst hM
  have hB : 0 ≤ B := by omega
  rcases Int.le_total 0 p with k | k
  · have k1 : p * q ≤ p * B := Int.mul_le_mul_of_nonneg_left hq.2 k
    have k2 : p * -B ≤ p * q := Int.mul_le_mul_of_nonneg_left hq.1 k
    have k3 : p * B ≤ A * B := Int.mul_le_mul_of_nonneg_right hp.2 hB
    rw [Int.mul_neg] at k2
    omega
  · have k1 : -p * q ≤ -p * B := Int.mul_le_mul_of_nonneg_left hq.2 (by omega)
    have k2 : -p * -B ≤ -p * q := Int.mul_le_mul_of_nonneg_left hq.1 (by omega)
    have k3 : -p * B ≤ A * B := Int.mul_le_mul_of_nonneg_right (by omega) hB
    have e : -p * q = -(p * q) := Int.neg_mul p q
    rw [Int.mul_neg] at k2
    omega
theorem sn_600 : sn 600 ≥ 31000 := by unfold sn; decide +kernel
theorem ata_small {m n : Int} (hn : 0 ≤ n) (hn1 : n ≤ 15) (hm : 536870000 ≤ m) : ata m n < 600 := by
  refine Classical.byContradiction fun hc => ?_
  have b := ata_b m n
  have h := ata_ok (m := m) hn
  have h1 := sn_mono (a := 600) (b := ata m n) (by omega) (by omega) (by omega)
  have h2 := sn_600
  have hc := cn_b (ata m n)
  have k1 : 31000 * 536870000 ≤ sn (ata m n) * m := Int.mul_le_mul (by omega) hm (by omega) (by omega)
  have k2 : cn (ata m n) * n ≤ 1073741824 * 15 := Int.le_trans (Int.mul_le_mul_of_nonneg_right hc.2 hn) (Int.mul_le_mul_of_nonneg_left hn1 (by omega))
  omega
theorem at2_small {y x : Int} (h0 : 0 ≤ y) (h1 : y ≤ 15) (hx : 536870000 ≤ x ∨ x ≤ -536870000) : at2 y x < 600 ∨ at2 y x > 64799400 := by
  have hq : atq y x < 600 := by
    have iy : iabs y = y := by unfold iabs; rw [if_neg (by omega)]
    have ix : 536870000 ≤ iabs x := by unfold iabs; split <;> omega
    unfold atq
    rw [if_neg (by omega), iy]
    rw [show max (iabs x) y = iabs x by omega, show min (iabs x) y = y by omega]
    exact ata_small h0 h1 ix
  have b := atq_b y x
  unfold at2
  rcases hx with k | k
  · rw [if_pos ⟨by omega, h0⟩]; omega
  · rw [if_neg (by omega), if_pos h0]; omega
end Go.Proofs.Ytgabdnabcpdinaa
