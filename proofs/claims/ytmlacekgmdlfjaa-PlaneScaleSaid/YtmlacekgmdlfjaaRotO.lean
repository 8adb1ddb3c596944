/- The distance of two positions whose vectors are near exact ones. -/
import Derived.Test.YtmlacekgmdlfjaaRotN
namespace Go.Proofs.Ytmlacekgmdlfjaa
open Go.RowKit Go.Joins Fdk
set_option linter.unusedVariables false
theorem sn_half_nn {δ : Int} (h0 : 0 ≤ δ) (h1 : δ ≤ 64800000) : 0 ≤ sn δ := by
  by_cases h : δ ≤ 32400000
  · have := sn_mono (a := 0) (b := δ) (by omega) (by omega) (by omega)
    rw [sn_0] at this; exact this
  · have := cn_mono (a := δ - 32400000) (b := 32400000) (by omega) (by omega) (by omega)
    have e : cn 32400000 = 0 := by rw [show (32400000 : Int) = 0 + 32400000 from rfl, cn_plus, sn_0]; rfl
    have e2 : sn δ = cn (δ - 32400000) := by rw [← sn_plus]; congr 1; omega
    rw [e2]; omega
theorem isq_bd {n : Int} (h0 : 0 ≤ n) (h1 : n ≤ 3458764597000000000) : 0 ≤ isq n ∧ isq n * isq n ≤ n ∧ n < (isq n + 1) * (isq n + 1) := by
  obtain ⟨a, _, b, c⟩ := isq_ok h0 (by omega)
  exact ⟨a, b, c⟩
/-- vectors of positions near exact ones: the distance is near the exact angle. -/
theorem dist_near (a b c d δ k : Int) (h1 : vd a b = true) (h2 : vd c d = true) (hδ : 0 ≤ δ ∧ δ ≤ 64800000) (k0 : 0 ≤ k) (k1 : k < 32400000) (p0 p1 p2 q0 q1 q2 e1 e2 : Rat)
    (hp : p0 * p0 + p1 * p1 + p2 * p2 = 1) (hq : q0 * q0 + q1 * q1 + q2 * q2 = 1) (hc : p0 * q0 + p1 * q1 + p2 * q2 = CC δ)
    (n1 : nrm ((rd (cn a * cn b) : Rat) - 1073741824 * p0) ((rd (cn a * sn b) : Rat) - 1073741824 * p1) ((sn a : Rat) - 1073741824 * p2) e1)
    (n2 : nrm ((rd (cn c * cn d) : Rat) - 1073741824 * q0) ((rd (cn c * sn d) : Rat) - 1073741824 * q1) ((sn c : Rat) - 1073741824 * q2) e2)
    (b1 : e1 ≤ 30000) (b2 : e2 ≤ 30000) (hM : 551/10 + 2 * (e1 + e2) + 9 < (sn (k + 1) : Rat) - 2) : dstv a b c d = (dv a b c d, 0) ∧ 0 ≤ dv a b c d ∧ -k ≤ dv a b c d - δ ∧ dv a b c d - δ ≤ k := by
  refine ⟨by unfold dstv; rw [h1, h2]; rfl, ?_⟩
  have u1 : Unit3 (rd (cn a * cn b)) (rd (cn a * sn b)) (sn a) := norm_b a b
  have u2 : Unit3 (rd (cn c * cn d)) (rd (cn c * sn d)) (sn c) := norm_b c d
  have hok := dist_ok u1 u2
  obtain ⟨_, _, _, bD, s0, s1, _⟩ := dist_b u1 u2
  have hi := isq_bd s0 s1
  have hu := CS_unit δ
  have ⟨⟨sa1, sa2⟩, _, _⟩ := nr_all (a := δ) (by omega) (by omega)
  have sp := rle2 (sn_half_nn hδ.1 hδ.2)
  have z0 : ((0 : Int) : Rat) = 0 := rfl
  rw [z0] at sp
  have E1 := n1.1
  have E2 := n2.1
  unfold dv
  have hrd := rd_r (rd (cn a * cn b) * rd (cn c * cn d) + rd (cn a * sn b) * rd (cn c * sn d) + sn a * sn c)
  have cW0 : ((rd (cn a * sn b) * sn c - sn a * rd (cn c * sn d) : Int) : Rat) = (rd (cn a * sn b) : Rat) * (sn c : Rat) - (sn a : Rat) * (rd (cn c * sn d) : Rat) := by simp only [Rat.intCast_sub, Rat.intCast_mul]
  have cW1 : ((sn a * rd (cn c * cn d) - rd (cn a * cn b) * sn c : Int) : Rat) = (sn a : Rat) * (rd (cn c * cn d) : Rat) - (rd (cn a * cn b) : Rat) * (sn c : Rat) := by simp only [Rat.intCast_sub, Rat.intCast_mul]
  have cW2 : ((rd (cn a * cn b) * rd (cn c * sn d) - rd (cn a * sn b) * rd (cn c * cn d) : Int) : Rat) = (rd (cn a * cn b) : Rat) * (rd (cn c * sn d) : Rat) - (rd (cn a * sn b) : Rat) * (rd (cn c * cn d) : Rat) := by simp only [Rat.intCast_sub, Rat.intCast_mul]
  have cD : ((rd (cn a * cn b) * rd (cn c * cn d) + rd (cn a * sn b) * rd (cn c * sn d) + sn a * sn c : Int) : Rat) = (rd (cn a * cn b) : Rat) * (rd (cn c * cn d) : Rat) + (rd (cn a * sn b) : Rat) * (rd (cn c * sn d) : Rat) + (sn a : Rat) * (sn c : Rat) := by simp only [Rat.intCast_add, Rat.intCast_mul]
  rw [cD] at hrd
  generalize rd (cn a * sn b) * sn c - sn a * rd (cn c * sn d) = W0 at *
  generalize sn a * rd (cn c * cn d) - rd (cn a * cn b) * sn c = W1 at *
  generalize rd (cn a * cn b) * rd (cn c * sn d) - rd (cn a * sn b) * rd (cn c * cn d) = W2 at *
  generalize rd (cn a * cn b) * rd (cn c * cn d) + rd (cn a * sn b) * rd (cn c * sn d) + sn a * sn c = D at *
  generalize (rd (cn a * cn b) : Rat) = P0 at *
  generalize (rd (cn a * sn b) : Rat) = P1 at *
  generalize (sn a : Rat) = P2 at *
  generalize (rd (cn c * cn d) : Rat) = Q0 at *
  generalize (rd (cn c * sn d) : Rat) = Q1 at *
  generalize (sn c : Rat) = Q2 at *
  have np : nrm p0 p1 p2 1 := ⟨by grind, by grind⟩
  have nq : nrm q0 q1 q2 1 := ⟨by grind, by grind⟩
  have ee : e1 * e2 ≤ 1073741824 := by
    have m1 := Rat.mul_nonneg (a := 30000 - e1) (b := e2) (by grind) E2
    grind
  -- the errors of the scalar product
  have d1 := nrm_dot np n2
  have d2 := nrm_dot n1 nq
  have d3 := nrm_dot n1 n2
  have eD : (P0 * Q0 + P1 * Q1 + P2 * Q2) / 1073741824 - 1073741824 * CC δ = (p0 * (Q0 - 1073741824 * q0) + p1 * (Q1 - 1073741824 * q1) + p2 * (Q2 - 1073741824 * q2)) + ((P0 - 1073741824 * p0) * q0 + (P1 - 1073741824 * p1) * q1 + (P2 - 1073741824 * p2) * q2) + ((P0 - 1073741824 * p0) * (Q0 - 1073741824 * q0) + (P1 - 1073741824 * p1) * (Q1 - 1073741824 * q1) + (P2 - 1073741824 * p2) * (Q2 - 1073741824 * q2)) / 1073741824 := by rw [← hc]; grind
  have fx : -(e1 + e2 + 3/2) ≤ (rd D : Rat) - 1073741824 * CC δ ∧ (rd D : Rat) - 1073741824 * CC δ ≤ e1 + e2 + 3/2 := by
    have e : (rd D : Rat) - 1073741824 * CC δ = ((rd D : Rat) - (P0 * Q0 + P1 * Q1 + P2 * Q2) / 1073741824) + ((P0 * Q0 + P1 * Q1 + P2 * Q2) / 1073741824 - 1073741824 * CC δ) := by grind
    rw [e, eD]
    generalize p0 * (Q0 - 1073741824 * q0) + p1 * (Q1 - 1073741824 * q1) + p2 * (Q2 - 1073741824 * q2) = T1 at *
    generalize (P0 - 1073741824 * p0) * q0 + (P1 - 1073741824 * p1) * q1 + (P2 - 1073741824 * p2) * q2 = T2 at *
    generalize (P0 - 1073741824 * p0) * (Q0 - 1073741824 * q0) + (P1 - 1073741824 * p1) * (Q1 - 1073741824 * q1) + (P2 - 1073741824 * p2) * (Q2 - 1073741824 * q2) = T3 at *
    generalize (rd D : Rat) - (P0 * Q0 + P1 * Q1 + P2 * Q2) / 1073741824 = T4 at *
    generalize e1 * e2 = T5 at *
    clear eD e n1 n2 np nq cW0 cW1 cW2 cD
    constructor <;> grind
  -- the errors of the cross product
  have c1 := nrm_cross np n2
  have c2 := nrm_cross n1 nq
  have c3 := nrm_smul (nrm_cross n1 n2) (k := 1 / 1073741824) (by grind)
  have c4 := nrm_mono (nrm_add (nrm_add c1 c2) c3) (t := e1 + e2 + 1) (by grind)
  have g0 : (W0 : Rat) / 1073741824 - 1073741824 * (p1 * q2 - p2 * q1) = p1 * (Q2 - 1073741824 * q2) - p2 * (Q1 - 1073741824 * q1) + ((P1 - 1073741824 * p1) * q2 - (P2 - 1073741824 * p2) * q1) + 1 / 1073741824 * ((P1 - 1073741824 * p1) * (Q2 - 1073741824 * q2) - (P2 - 1073741824 * p2) * (Q1 - 1073741824 * q1)) := by rw [cW0]; grind
  have g1 : (W1 : Rat) / 1073741824 - 1073741824 * (p2 * q0 - p0 * q2) = p2 * (Q0 - 1073741824 * q0) - p0 * (Q2 - 1073741824 * q2) + ((P2 - 1073741824 * p2) * q0 - (P0 - 1073741824 * p0) * q2) + 1 / 1073741824 * ((P2 - 1073741824 * p2) * (Q0 - 1073741824 * q0) - (P0 - 1073741824 * p0) * (Q2 - 1073741824 * q2)) := by rw [cW1]; grind
  have g2 : (W2 : Rat) / 1073741824 - 1073741824 * (p0 * q1 - p1 * q0) = p0 * (Q1 - 1073741824 * q1) - p1 * (Q0 - 1073741824 * q0) + ((P0 - 1073741824 * p0) * q1 - (P1 - 1073741824 * p1) * q0) + 1 / 1073741824 * ((P0 - 1073741824 * p0) * (Q1 - 1073741824 * q1) - (P1 - 1073741824 * p1) * (Q0 - 1073741824 * q0)) := by rw [cW2]; grind
  rw [← g0, ← g1, ← g2] at c4
  have hcr : (p1 * q2 - p2 * q1) * (p1 * q2 - p2 * q1) + (p2 * q0 - p0 * q2) * (p2 * q0 - p0 * q2) + (p0 * q1 - p1 * q0) * (p0 * q1 - p1 * q0) = SS δ * SS δ := by
    have e : (p1 * q2 - p2 * q1) * (p1 * q2 - p2 * q1) + (p2 * q0 - p0 * q2) * (p2 * q0 - p0 * q2) + (p0 * q1 - p1 * q0) * (p0 * q1 - p1 * q0) = (p0 * p0 + p1 * p1 + p2 * p2) * (q0 * q0 + q1 * q1 + q2 * q2) - (p0 * q0 + p1 * q1 + p2 * q2) * (p0 * q0 + p1 * q1 + p2 * q2) := by grind
    rw [e, hp, hq, hc]; grind
  clear g0 g1 g2 c1 c2 c3 eD d1 d2 d3 cW0 cW1 cW2 cD np nq n1 n2
  have fy : -(e1 + e2 + 7) ≤ (isq (csum W0 W1 W2) : Rat) - 1073741824 * SS δ ∧ (isq (csum W0 W1 W2) : Rat) - 1073741824 * SS δ ≤ e1 + e2 + 7 := by
    rcases (Rat.le_total : 0 ≤ SS δ ∨ SS δ ≤ 0) with hs | hs
    · have := csum_near (isq (csum W0 W1 W2)) hi.1 hi.2.1 hi.2.2 (s := 1073741824 * SS δ) (e := e1 + e2 + 1) (by grind) _ _ _ (by
        have : 1073741824 * (p1 * q2 - p2 * q1) * (1073741824 * (p1 * q2 - p2 * q1)) + 1073741824 * (p2 * q0 - p0 * q2) * (1073741824 * (p2 * q0 - p0 * q2)) + 1073741824 * (p0 * q1 - p1 * q0) * (1073741824 * (p0 * q1 - p1 * q0)) = 1152921504606846976 * ((p1 * q2 - p2 * q1) * (p1 * q2 - p2 * q1) + (p2 * q0 - p0 * q2) * (p2 * q0 - p0 * q2) + (p0 * q1 - p1 * q0) * (p0 * q1 - p1 * q0)) := by grind
        rw [this, hcr]; grind) c4
      constructor <;> grind
    · have := csum_near (isq (csum W0 W1 W2)) hi.1 hi.2.1 hi.2.2 (s := 1073741824 * (-SS δ)) (e := e1 + e2 + 1) (by grind) _ _ _ (by
        have : 1073741824 * (p1 * q2 - p2 * q1) * (1073741824 * (p1 * q2 - p2 * q1)) + 1073741824 * (p2 * q0 - p0 * q2) * (1073741824 * (p2 * q0 - p0 * q2)) + 1073741824 * (p0 * q1 - p1 * q0) * (1073741824 * (p0 * q1 - p1 * q0)) = 1152921504606846976 * ((p1 * q2 - p2 * q1) * (p1 * q2 - p2 * q1) + (p2 * q0 - p0 * q2) * (p2 * q0 - p0 * q2) + (p0 * q1 - p1 * q0) * (p0 * q1 - p1 * q0)) := by grind
        rw [this, hcr]; grind) c4
      constructor <;> grind
  have he : (a2 (isq (csum W0 W1 W2)) (rd D)).1 = at2 (isq (csum W0 W1 W2)) (rd D) := by
    unfold a2 at hok ⊢
    split
    · next h =>
      rw [if_pos h] at hok
      split
      · next h' => rw [if_pos h'] at hok; exact absurd hok (by decide)
      · rfl
    · next h => rw [if_neg h] at hok; exact absurd hok (by decide)
  rw [he]
  exact ⟨(at2_b _ _).1, ang_near _ _ δ k hδ hi.1 k0 k1 (e1 + e2 + 3/2) (e1 + e2 + 7) (by grind) (by grind) fx.1 fx.2 fy.1 fy.2 (by grind)⟩
end Go.Proofs.Ytmlacekgmdlfjaa
