/- Course and distance lead to the other position: the exact direction (second part). -/
import Derived.Test.YtgcmmfclnialfaaRotS
namespace Go.Proofs.Ytgcmmfclnialfaa
open Go.RowKit Go.Joins Fdk
set_option linter.unusedVariables false
theorem nrm_of_eq {x y z s r : Rat} (h0 : 0 ≤ r) (h : x * x + y * y + z * z = s) (hs : s ≤ r * r) : nrm x y z r := ⟨h0, by rw [h]; exact hs⟩
/-- the sine of the distance that the program computes, against the exact components. -/
theorem cross_two {a b c d : Int} (hv : vd a b = true) (hw : vd c d = true) :
    (∀ r, 0 ≤ r → cE b (rd (cn c * cn d)) (rd (cn c * sn d)) * cE b (rd (cn c * cn d)) (rd (cn c * sn d)) + cN a b (rd (cn c * cn d)) (rd (cn c * sn d)) (sn c) * cN a b (rd (cn c * cn d)) (rd (cn c * sn d)) (sn c) ≤ r * r →
      ((isq (csum (rd (cn a * sn b) * sn c - sn a * rd (cn c * sn d)) (sn a * rd (cn c * cn d) - rd (cn a * cn b) * sn c) (rd (cn a * cn b) * rd (cn c * sn d) - rd (cn a * sn b) * rd (cn c * cn d))) : Int) : Rat) ≤ r + 77/10) ∧
    cE b (rd (cn c * cn d)) (rd (cn c * sn d)) * cE b (rd (cn c * cn d)) (rd (cn c * sn d)) + cN a b (rd (cn c * cn d)) (rd (cn c * sn d)) (sn c) * cN a b (rd (cn c * cn d)) (rd (cn c * sn d)) (sn c) ≤
      (((isq (csum (rd (cn a * sn b) * sn c - sn a * rd (cn c * sn d)) (sn a * rd (cn c * cn d) - rd (cn a * cn b) * sn c) (rd (cn a * cn b) * rd (cn c * sn d) - rd (cn a * sn b) * rd (cn c * cn d))) : Int) : Rat) + 87/10) * (((isq (csum (rd (cn a * sn b) * sn c - sn a * rd (cn c * sn d)) (sn a * rd (cn c * cn d) - rd (cn a * cn b) * sn c) (rd (cn a * cn b) * rd (cn c * sn d) - rd (cn a * sn b) * rd (cn c * cn d))) : Int) : Rat) + 87/10) ∧
    0 ≤ isq (csum (rd (cn a * sn b) * sn c - sn a * rd (cn c * sn d)) (sn a * rd (cn c * cn d) - rd (cn a * cn b) * sn c) (rd (cn a * cn b) * rd (cn c * sn d) - rd (cn a * sn b) * rd (cn c * cn d))) := by
  have u1 : Unit3 (rd (cn a * cn b)) (rd (cn a * sn b)) (sn a) := norm_b a b
  have u2 : Unit3 (rd (cn c * cn d)) (rd (cn c * sn d)) (sn c) := norm_b c d
  obtain ⟨_, _, _, bD, s0, s1, _⟩ := dist_b u1 u2
  have hi := isq_bd s0 s1
  have qn := q_nrm hw
  have pu := of_nrm hv
  have ⟨f1, f2, f3⟩ := cross_exact a b (rd (cn c * cn d) : Rat) (rd (cn c * sn d) : Rat) (sn c : Rat)
  have h1 := CS_unit a
  have h2 := CS_unit b
  have cr := nrm_mono (nrm_sc (nrm_cross pu qn) (k := 1 / 1073741824) (κ := 1 / 1073741824) (by grind) (by grind)) (t := 68/10) (by grind)
  have cW0 : ((rd (cn a * sn b) * sn c - sn a * rd (cn c * sn d) : Int) : Rat) = (rd (cn a * sn b) : Rat) * (sn c : Rat) - (sn a : Rat) * (rd (cn c * sn d) : Rat) := by simp only [Rat.intCast_sub, Rat.intCast_mul]
  have cW1 : ((sn a * rd (cn c * cn d) - rd (cn a * cn b) * sn c : Int) : Rat) = (sn a : Rat) * (rd (cn c * cn d) : Rat) - (rd (cn a * cn b) : Rat) * (sn c : Rat) := by simp only [Rat.intCast_sub, Rat.intCast_mul]
  have cW2 : ((rd (cn a * cn b) * rd (cn c * sn d) - rd (cn a * sn b) * rd (cn c * cn d) : Int) : Rat) = (rd (cn a * cn b) : Rat) * (rd (cn c * sn d) : Rat) - (rd (cn a * sn b) : Rat) * (rd (cn c * cn d) : Rat) := by simp only [Rat.intCast_sub, Rat.intCast_mul]
  generalize rd (cn a * sn b) * sn c - sn a * rd (cn c * sn d) = W0 at *
  generalize sn a * rd (cn c * cn d) - rd (cn a * cn b) * sn c = W1 at *
  generalize rd (cn a * cn b) * rd (cn c * sn d) - rd (cn a * sn b) * rd (cn c * cn d) = W2 at *
  generalize (rd (cn a * cn b) : Rat) = P0 at *
  generalize (rd (cn a * sn b) : Rat) = P1 at *
  generalize (sn a : Rat) = P2 at *
  generalize (rd (cn c * cn d) : Rat) = x at *
  generalize (rd (cn c * sn d) : Rat) = y at *
  generalize (sn c : Rat) = z at *
  have g0 : 1 / 1073741824 * ((P1 - 1073741824 * (CC a * SS b)) * z - (P2 - 1073741824 * SS a) * y) = (W0 : Rat) / 1073741824 - -(y * SS a - z * (CC a * SS b)) := by rw [cW0]; grind
  have g1 : 1 / 1073741824 * ((P2 - 1073741824 * SS a) * x - (P0 - 1073741824 * (CC a * CC b)) * z) = (W1 : Rat) / 1073741824 - -(z * (CC a * CC b) - x * SS a) := by rw [cW1]; grind
  have g2 : 1 / 1073741824 * ((P0 - 1073741824 * (CC a * CC b)) * y - (P1 - 1073741824 * (CC a * SS b)) * x) = (W2 : Rat) / 1073741824 - -(x * (CC a * SS b) - y * (CC a * CC b)) := by rw [cW2]; grind
  rw [g0, g1, g2, f1, f2, f3] at cr
  have two := csum_two (isq (csum W0 W1 W2)) hi.1 hi.2.1 hi.2.2 _ _ _ cr
  generalize cE b x y = E at *
  generalize cN a b x y z = N at *
  have e : -(-(SS b * N) + CC b * SS a * E) * -(-(SS b * N) + CC b * SS a * E) + -(CC b * N + SS b * SS a * E) * -(CC b * N + SS b * SS a * E) + - -(CC a * E) * - -(CC a * E) = E * E + N * N := by
    have : -(-(SS b * N) + CC b * SS a * E) * -(-(SS b * N) + CC b * SS a * E) + -(CC b * N + SS b * SS a * E) * -(CC b * N + SS b * SS a * E) + - -(CC a * E) * - -(CC a * E) = N * N * (CC b * CC b + SS b * SS b) + E * E * (SS a * SS a * (CC b * CC b + SS b * SS b) + CC a * CC a) := by grind
    rw [this, h2]
    have e2 : N * N * 1 + E * E * (SS a * SS a * 1 + CC a * CC a) = N * N + E * E * (CC a * CC a + SS a * SS a) := by grind
    rw [e2, h1]; grind
  refine ⟨fun r r0 hr => ?_, ?_, hi.1⟩
  · have := two.1 r ⟨r0, by rw [e]; exact hr⟩
    grind
  · have := two.2.2
    rw [e] at this
    have e3 : ((isq (csum W0 W1 W2) : Int) : Rat) + 19/10 + 68/10 = ((isq (csum W0 W1 W2) : Int) : Rat) + 87/10 := by grind
    rw [e3] at this
    exact this
end Go.Proofs.Ytgcmmfclnialfaa
