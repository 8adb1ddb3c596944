/- Distances of positions that are near each other. -/
import Derived.Test.YtmlacekgmdlfjaaRotQ
namespace Go.Proofs.Ytmlacekgmdlfjaa
open Go.RowKit Go.Joins Fdk
set_option linter.unusedVariables false
/-- the square root of the sum of the squares of rounded sizes, against a vector. -/
theorem csum_two {W0 W1 W2 : Int} {e : Rat} (m : Int) (m0 : 0 ≤ m) (h1 : m * m ≤ csum W0 W1 W2) (h2 : csum W0 W1 W2 < (m + 1) * (m + 1)) (c0 c1 c2 : Rat)
    (hn : nrm ((W0 : Rat) / 1073741824 - c0) ((W1 : Rat) / 1073741824 - c1) ((W2 : Rat) / 1073741824 - c2) e) : (∀ r, nrm c0 c1 c2 r → (m : Rat) ≤ r + e + 9/10) ∧ nrm c0 c1 c2 ((m : Rat) + 19/10 + e) := by
  have ab : ∀ W : Int, ∃ g : Rat, (g = 1 ∨ g = -1) ∧ -(1/2) ≤ g * (rd (iabs W) : Rat) - (W : Rat) / 1073741824 ∧ g * (rd (iabs W) : Rat) - (W : Rat) / 1073741824 ≤ 1/2 := fun W => by
    have r := rd_r (iabs W)
    by_cases h : W < 0
    · refine ⟨-1, .inr rfl, ?_⟩
      have e : (iabs W : Rat) = -(W : Rat) := by rw [← rneg]; congr 1; unfold iabs; rw [if_pos h]
      rw [e] at r
      constructor <;> grind
    · refine ⟨1, .inl rfl, ?_⟩
      have e : (iabs W : Rat) = (W : Rat) := by congr 1; unfold iabs; rw [if_neg h]
      rw [e] at r
      constructor <;> grind
  obtain ⟨g0, hg0, a0, b0⟩ := ab W0
  obtain ⟨g1, hg1, a1, b1⟩ := ab W1
  obtain ⟨g2, hg2, a2, b2⟩ := ab W2
  have q : ∀ g r : Rat, (g = 1 ∨ g = -1) → g * r * (g * r) = r * r := fun g r h => by rcases h with rfl | rfl <;> grind
  have r1 := rle2 h1
  have r2 := rle2 (Int.le_of_lt h2)
  unfold csum at r1 r2
  simp only [Rat.intCast_mul, Rat.intCast_add, Rat.intCast_ofNat] at r1 r2
  have M0 : (0 : Rat) ≤ m := by have := rle2 m0; simpa using this
  have s0' := q g0 (rd (iabs W0) : Rat) hg0
  have s1' := q g1 (rd (iabs W1) : Rat) hg1
  have s2' := q g2 (rd (iabs W2) : Rat) hg2
  generalize g0 * (rd (iabs W0) : Rat) = R0 at *
  generalize g1 * (rd (iabs W1) : Rat) = R1 at *
  generalize g2 * (rd (iabs W2) : Rat) = R2 at *
  have nr : nrm R0 R1 R2 ((m : Rat) + 1) := ⟨by grind, by grind⟩
  have hd : nrm (R0 - (W0 : Rat) / 1073741824) (R1 - (W1 : Rat) / 1073741824) (R2 - (W2 : Rat) / 1073741824) (9/10) := ⟨by grind, by
    have p0 := mulab a0 b0 a0 b0
    have p1 := mulab a1 b1 a1 b1
    have p2 := mulab a2 b2 a2 b2
    grind⟩
  have hr := nrm_add hd hn
  constructor
  · intro r hs
    have h3 := nrm_add hs hr
    have k : (m : Rat) ≤ r + (9/10 + e) := by
      refine le_of_sq h3.1 ?_
      have := h3.2
      have e0 : c0 + (R0 - (W0 : Rat) / 1073741824 + ((W0 : Rat) / 1073741824 - c0)) = R0 := by grind
      have e1 : c1 + (R1 - (W1 : Rat) / 1073741824 + ((W1 : Rat) / 1073741824 - c1)) = R1 := by grind
      have e2 : c2 + (R2 - (W2 : Rat) / 1073741824 + ((W2 : Rat) / 1073741824 - c2)) = R2 := by grind
      rw [e0, e1, e2] at this
      grind
    grind
  · have h3 := nrm_add nr (nrm_neg hr)
    have g : ∀ R W c : Rat, R + -(R - W + (W - c)) = c := fun R W c => by grind
    rw [g, g, g] at h3
    exact nrm_mono h3 (by grind)
/-- two vectors of positions near the same direction: the distance is small. -/
theorem dist_zero (a b c d k : Int) (h1 : vd a b = true) (h2 : vd c d = true) (k0 : 0 ≤ k) (k1 : k < 100) (X Y Z l e1 e2 : Rat) (hu : X * X + Y * Y + Z * Z = 1) (l0 : 0 ≤ l) (l1 : l ≤ 1073751824)
    (n1 : nrm ((rd (cn a * cn b) : Rat) - l * X) ((rd (cn a * sn b) : Rat) - l * Y) ((sn a : Rat) - l * Z) e1)
    (n2 : nrm ((rd (cn c * cn d) : Rat) - 1073741824 * X) ((rd (cn c * sn d) : Rat) - 1073741824 * Y) ((sn c : Rat) - 1073741824 * Z) e2)
    (b1 : e1 ≤ 5000) (b2 : e2 ≤ 5000) (hM : e1 + e2 + 5 ≤ (sn (k + 1) : Rat)) : dstv a b c d = (dv a b c d, 0) ∧ 0 ≤ dv a b c d ∧ dv a b c d ≤ k := by
  refine ⟨by unfold dstv; rw [h1, h2]; rfl, ?_⟩
  have u1 : Unit3 (rd (cn a * cn b)) (rd (cn a * sn b)) (sn a) := norm_b a b
  have u2 : Unit3 (rd (cn c * cn d)) (rd (cn c * sn d)) (sn c) := norm_b c d
  have L := lagrange (rd (cn a * cn b)) (rd (cn a * sn b)) (sn a) (rd (cn c * cn d)) (rd (cn c * sn d)) (sn c)
  have lo : (1152921504606846976 - 12884901888) * (1152921504606846976 - 12884901888) ≤ (rd (cn a * cn b) * rd (cn a * cn b) + rd (cn a * sn b) * rd (cn a * sn b) + sn a * sn a) * (rd (cn c * cn d) * rd (cn c * cn d) + rd (cn c * sn d) * rd (cn c * sn d) + sn c * sn c) := Int.mul_le_mul u1.1 u2.1 (by omega) (by have := u1.1; omega)
  obtain ⟨_, _, _, bD, s0, s1, _⟩ := dist_b u1 u2
  have hi := isq_bd s0 s1
  have E1 := n1.1
  have E2 := n2.1
  unfold dv
  have cW0 : ((rd (cn a * sn b) * sn c - sn a * rd (cn c * sn d) : Int) : Rat) = (rd (cn a * sn b) : Rat) * (sn c : Rat) - (sn a : Rat) * (rd (cn c * sn d) : Rat) := by simp only [Rat.intCast_sub, Rat.intCast_mul]
  have cW1 : ((sn a * rd (cn c * cn d) - rd (cn a * cn b) * sn c : Int) : Rat) = (sn a : Rat) * (rd (cn c * cn d) : Rat) - (rd (cn a * cn b) : Rat) * (sn c : Rat) := by simp only [Rat.intCast_sub, Rat.intCast_mul]
  have cW2 : ((rd (cn a * cn b) * rd (cn c * sn d) - rd (cn a * sn b) * rd (cn c * cn d) : Int) : Rat) = (rd (cn a * cn b) : Rat) * (rd (cn c * sn d) : Rat) - (rd (cn a * sn b) : Rat) * (rd (cn c * cn d) : Rat) := by simp only [Rat.intCast_sub, Rat.intCast_mul]
  have cD : ((rd (cn a * cn b) * rd (cn c * cn d) + rd (cn a * sn b) * rd (cn c * sn d) + sn a * sn c : Int) : Rat) = (rd (cn a * cn b) : Rat) * (rd (cn c * cn d) : Rat) + (rd (cn a * sn b) : Rat) * (rd (cn c * sn d) : Rat) + (sn a : Rat) * (sn c : Rat) := by simp only [Rat.intCast_add, Rat.intCast_mul]
  generalize (rd (cn a * cn b) * rd (cn a * cn b) + rd (cn a * sn b) * rd (cn a * sn b) + sn a * sn a) * (rd (cn c * cn d) * rd (cn c * cn d) + rd (cn c * sn d) * rd (cn c * sn d) + sn c * sn c) = NN at *
  generalize rd (cn a * sn b) * sn c - sn a * rd (cn c * sn d) = W0 at *
  generalize sn a * rd (cn c * cn d) - rd (cn a * cn b) * sn c = W1 at *
  generalize rd (cn a * cn b) * rd (cn c * sn d) - rd (cn a * sn b) * rd (cn c * cn d) = W2 at *
  generalize rd (cn a * cn b) * rd (cn c * cn d) + rd (cn a * sn b) * rd (cn c * sn d) + sn a * sn c = D at *
  generalize (rd (cn a * cn b) : Rat) = P0 at *
  generalize (rd (cn a * sn b) : Rat) = P1 at *
  generalize (sn a : Rat) = P2 at *
  generalize (rd (cn c * cn d) : Rat) = Q0 at *
  generalize (rd (cn c * sn d) : Rat) = Q1 at *
  generalize (sn c : Rat) = Q2 at *
  have nu : nrm X Y Z 1 := ⟨by grind, by grind⟩
  have ee : e1 * e2 ≤ 25000000 := by
    have m1 := Rat.mul_nonneg (a := 5000 - e1) (b := e2) (by grind) E2
    grind
  have ef := Rat.mul_nonneg E1 E2
  -- the cross product
  have c1 := nrm_sc (nrm_cross nu n2) (k := l / 1073741824) (κ := 10001/10000) (by grind) (by grind)
  have c2 := nrm_cross n1 nu
  have c3 := nrm_sc (nrm_cross n1 n2) (k := 1 / 1073741824) (κ := 1 / 1073741824) (by grind) (by grind)
  have c4 := nrm_mono (nrm_add (nrm_add c1 c2) c3) (t := e1 + e2 + 11/10) (by grind)
  have g0 : (W0 : Rat) / 1073741824 - 0 = l / 1073741824 * (Y * (Q2 - 1073741824 * Z) - Z * (Q1 - 1073741824 * Y)) + ((P1 - l * Y) * Z - (P2 - l * Z) * Y) + 1 / 1073741824 * ((P1 - l * Y) * (Q2 - 1073741824 * Z) - (P2 - l * Z) * (Q1 - 1073741824 * Y)) := by rw [cW0]; grind
  have g1 : (W1 : Rat) / 1073741824 - 0 = l / 1073741824 * (Z * (Q0 - 1073741824 * X) - X * (Q2 - 1073741824 * Z)) + ((P2 - l * Z) * X - (P0 - l * X) * Z) + 1 / 1073741824 * ((P2 - l * Z) * (Q0 - 1073741824 * X) - (P0 - l * X) * (Q2 - 1073741824 * Z)) := by rw [cW1]; grind
  have g2 : (W2 : Rat) / 1073741824 - 0 = l / 1073741824 * (X * (Q1 - 1073741824 * Y) - Y * (Q0 - 1073741824 * X)) + ((P0 - l * X) * Y - (P1 - l * Y) * X) + 1 / 1073741824 * ((P0 - l * X) * (Q1 - 1073741824 * Y) - (P1 - l * Y) * (Q0 - 1073741824 * X)) := by rw [cW2]; grind
  rw [← g0, ← g1, ← g2] at c4
  have hm := (csum_two (isq (csum W0 W1 W2)) hi.1 hi.2.1 hi.2.2 0 0 0 c4).1 0 ⟨by grind, by grind⟩
  -- the scalar product is not negative by much
  have d1 := nrm_dot nu n2
  have d2 := nrm_dot n1 nu
  have d3 := nrm_dot n1 n2
  have eD : P0 * Q0 + P1 * Q1 + P2 * Q2 = 1073741824 * l + l * (X * (Q0 - 1073741824 * X) + Y * (Q1 - 1073741824 * Y) + Z * (Q2 - 1073741824 * Z)) + 1073741824 * ((P0 - l * X) * X + (P1 - l * Y) * Y + (P2 - l * Z) * Z) + ((P0 - l * X) * (Q0 - 1073741824 * X) + (P1 - l * Y) * (Q1 - 1073741824 * Y) + (P2 - l * Z) * (Q2 - 1073741824 * Z)) := by
    have : 1073741824 * l = 1073741824 * l * (X * X + Y * Y + Z * Z) := by rw [hu]; grind
    rw [this]; grind
  have hD : -576460752303423488 ≤ D := by
    refine ile ?_
    rw [cD, eD]
    generalize X * (Q0 - 1073741824 * X) + Y * (Q1 - 1073741824 * Y) + Z * (Q2 - 1073741824 * Z) = T1 at *
    generalize (P0 - l * X) * X + (P1 - l * Y) * Y + (P2 - l * Z) * Z = T2 at *
    generalize (P0 - l * X) * (Q0 - 1073741824 * X) + (P1 - l * Y) * (Q1 - 1073741824 * Y) + (P2 - l * Z) * (Q2 - 1073741824 * Z) = T3 at *
    have t1 := mulab (a := l) (b := T1) (A := 1073751824) (B := 5000) (by grind) l1 (by grind) (by grind)
    have z0 : ((-576460752303423488 : Int) : Rat) = -576460752303423488 := rfl
    rw [z0]
    clear g0 g1 g2 eD c1 c2 c3 c4 cW0 cW1 cW2 cD n1 n2 nu hu
    generalize l * T1 = T4 at *
    grind
  clear g0 g1 g2 eD c1 c2 c3 c4 cW0 cW1 cW2 cD n1 n2 nu hu d1 d2 d3
  have hk := sn_b (k + 1)
  have hk2 : sn (k + 1) ≤ 10000 := by
    have := sn_mono (a := k + 1) (b := 150) (by omega) (by omega) (by omega)
    have e : sn 150 ≤ 9000 := by decide +kernel
    omega
  have hmi : isq (csum W0 W1 W2) ≤ sn (k + 1) - 1 := by
    have : isq (csum W0 W1 W2) + 1 ≤ sn (k + 1) := by
      refine ile ?_
      rw [Rat.intCast_add]
      have z1 : ((1 : Int) : Rat) = 1 := rfl
      rw [z1]
      grind
    omega
  generalize hs : sn (k + 1) = s at *
  have rW : ∀ W : Int, rd (iabs W) * rd (iabs W) ≤ csum W0 W1 W2 → 0 ≤ rd (iabs W) → -(10737418240000) ≤ W ∧ W ≤ 10737418240000 := fun W h h0 => by
    have : rd (iabs W) ≤ 9999 := by
      refine Classical.byContradiction fun hc => ?_
      have h5 := sq_le (a := isq (csum W0 W1 W2) + 1) (b := rd (iabs W)) (by omega) (by omega)
      omega
    unfold rd iabs at this
    split at this <;> omega
  have nn : ∀ W : Int, 0 ≤ rd (iabs W) := fun W => by have := iabs_nn W; unfold rd; omega
  have z0 := mul_nnsq (rd (iabs W0))
  have z1 := mul_nnsq (rd (iabs W1))
  have z2 := mul_nnsq (rd (iabs W2))
  have w0 := rW W0 (by unfold csum; omega) (nn _)
  have w1 := rW W1 (by unfold csum; omega) (nn _)
  have w2 := rW W2 (by unfold csum; omega) (nn _)
  have q0 := pb (p := W0) (q := W0) (115292150460684697600000000) w0 w0 (by omega) (by decide)
  have q1 := pb (p := W1) (q := W1) (115292150460684697600000000) w1 w1 (by omega) (by decide)
  have q2 := pb (p := W2) (q := W2) (115292150460684697600000000) w2 w2 (by omega) (by decide)
  have D1 : 1152920000000000000 ≤ D := by
    refine Classical.byContradiction fun hc => ?_
    have q3 := pb (p := D) (q := D) (A := 1152920000000000000) (B := 1152920000000000000) (1329224526400000000000000000000000000) (by omega) (by omega) (by omega) (by decide)
    omega
  have rD : 1073740000 ≤ rd D ∧ rd D ≤ 2147483647 := by unfold rd; omega
  unfold a2
  rw [if_pos (show fits (isq (csum W0 W1 W2)) (rd D) = true from decide_eq_true ⟨by omega, by omega⟩), if_neg (fun h => by omega)]
  refine ⟨(at2_b _ _).1, at2_le _ _ k k0 (by omega) hi.1 (by omega) ?_⟩
  rw [cn_0, hs]
  have m1 : s * 1073740000 ≤ s * rd D := Int.mul_le_mul_of_nonneg_left rD.1 (by omega)
  generalize s * rd D = P at *
  omega
end Go.Proofs.Ytmlacekgmdlfjaa
