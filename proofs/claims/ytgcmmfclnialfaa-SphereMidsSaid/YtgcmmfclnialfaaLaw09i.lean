/- The position halfway: its distances differ by at most 8 units. -/
import Derived.Test.YtgcmmfclnialfaaRotZb
import Derived.Test.YtgcmmfclnialfaaSphJ
namespace Go.Proofs.Ytgcmmfclnialfaa
open Go.RowKit Go.Joins Fdk
set_option linter.unusedVariables false
/-- two directions that are near each other. -/
theorem two_dirs {x1 m1 x2 m2 t1 t2 : Int} (b1 : 0 ≤ t1 ∧ t1 ≤ 64800000) (b2 : 0 ≤ t2 ∧ t2 ≤ 64800000)
    (q1 : -55 ≤ (m1 : Rat) * CC t1 - (x1 : Rat) * SS t1 ∧ (m1 : Rat) * CC t1 - (x1 : Rat) * SS t1 ≤ 55) (p1 : 1060000000 ≤ (x1 : Rat) * CC t1 + (m1 : Rat) * SS t1) (r1 : (x1 : Rat) * CC t1 + (m1 : Rat) * SS t1 ≤ 1080000000)
    (q2 : -55 ≤ (m2 : Rat) * CC t2 - (x2 : Rat) * SS t2 ∧ (m2 : Rat) * CC t2 - (x2 : Rat) * SS t2 ≤ 55) (p2 : 1060000000 ≤ (x2 : Rat) * CC t2 + (m2 : Rat) * SS t2)
    (hx : -199 ≤ (x1 : Rat) - x2 ∧ (x1 : Rat) - x2 ≤ 199) (hm : -176 ≤ (m1 : Rat) - m2 ∧ (m1 : Rat) - m2 ≤ 176) : -8 ≤ t1 - t2 ∧ t1 - t2 ≤ 8 := by
  have s9 : sn (8 + 1) = 469 := by decide +kernel
  have u1 := CS_unit t1
  have u2 := CS_unit t2
  have hs := CS_sub t1 t2
  have ⟨⟨c1, c2⟩, s1, s2⟩ := CS_1 (t1 - t2)
  have n1 : nrm ((x1 : Rat) - x2) ((m1 : Rat) - m2) 0 266 := ⟨by grind, by
    have k1 := mulab hx.1 hx.2 hx.1 hx.2
    have k2 := mulab hm.1 hm.2 hm.1 hm.2
    grind⟩
  have n2 : nrm (-SS t2) (CC t2) 0 1 := ⟨by grind, by grind⟩
  have n3 : nrm (CC t2) (SS t2) 0 1 := ⟨by grind, by grind⟩
  have d1 := nrm_dot n1 n2
  have d2 := nrm_dot n1 n3
  -- the first direction, seen at the second angle
  have f1 : (m1 : Rat) * CC t2 - (x1 : Rat) * SS t2 = ((x1 : Rat) * CC t1 + (m1 : Rat) * SS t1) * SS (t1 - t2) + ((m1 : Rat) * CC t1 - (x1 : Rat) * SS t1) * CC (t1 - t2) := by
    rw [hs.1, hs.2]
    have : ((x1 : Rat) * CC t1 + (m1 : Rat) * SS t1) * (SS t1 * CC t2 - CC t1 * SS t2) + ((m1 : Rat) * CC t1 - (x1 : Rat) * SS t1) * (CC t1 * CC t2 + SS t1 * SS t2) = ((m1 : Rat) * CC t2 - (x1 : Rat) * SS t2) * (CC t1 * CC t1 + SS t1 * SS t1) := by grind
    rw [this, u1]; grind
  have f2 : (x1 : Rat) * CC t2 + (m1 : Rat) * SS t2 = ((x1 : Rat) * CC t1 + (m1 : Rat) * SS t1) * CC (t1 - t2) - ((m1 : Rat) * CC t1 - (x1 : Rat) * SS t1) * SS (t1 - t2) := by
    rw [hs.1, hs.2]
    have : ((x1 : Rat) * CC t1 + (m1 : Rat) * SS t1) * (CC t1 * CC t2 + SS t1 * SS t2) - ((m1 : Rat) * CC t1 - (x1 : Rat) * SS t1) * (SS t1 * CC t2 - CC t1 * SS t2) = ((x1 : Rat) * CC t2 + (m1 : Rat) * SS t2) * (CC t1 * CC t1 + SS t1 * SS t1) := by grind
    rw [this, u1]; grind
  have g1 : ((x1 : Rat) - x2) * -SS t2 + ((m1 : Rat) - m2) * CC t2 + 0 * 0 = ((m1 : Rat) * CC t2 - (x1 : Rat) * SS t2) - ((m2 : Rat) * CC t2 - (x2 : Rat) * SS t2) := by grind
  have g2 : ((x1 : Rat) - x2) * CC t2 + ((m1 : Rat) - m2) * SS t2 + 0 * 0 = ((x1 : Rat) * CC t2 + (m1 : Rat) * SS t2) - ((x2 : Rat) * CC t2 + (m2 : Rat) * SS t2) := by grind
  rw [g1, f1] at d1
  rw [g2, f2] at d2
  clear f1 f2 g1 g2 n1 n2 n3 hs u1 u2
  generalize (x1 : Rat) * CC t1 + (m1 : Rat) * SS t1 = P1 at *
  generalize (m1 : Rat) * CC t1 - (x1 : Rat) * SS t1 = Q1 at *
  generalize (x2 : Rat) * CC t2 + (m2 : Rat) * SS t2 = P2 at *
  generalize (m2 : Rat) * CC t2 - (x2 : Rat) * SS t2 = Q2 at *
  have k1 := mulab q1.1 q1.2 c1 c2
  have k2 := mulab q1.1 q1.2 s1 s2
  refine small_ang (d := t1 - t2) (by omega) (by omega) (by omega) 460 (by rw [s9]; have : ((469 : Int) : Rat) = 469 := rfl; grind) ?_ ?_ ?_
  · refine Classical.byContradiction fun hn => ?_
    have k3 := Rat.mul_nonneg (a := P1 - 1060000000) (b := -SS (t1 - t2)) (by grind) (by grind)
    grind
  · refine Classical.byContradiction fun hn => ?_
    have k3 := Rat.mul_nonneg (a := P1 - 1060000000) (b := SS (t1 - t2)) (by grind) (by grind)
    grind
  · refine Classical.byContradiction fun hn => ?_
    have k4 : P1 * CC (t1 - t2) ≤ 1000000000 := by
      rcases (Rat.le_total : CC (t1 - t2) ≤ 0 ∨ 0 ≤ CC (t1 - t2)) with hc | hc
      · have := Rat.mul_nonneg (a := P1) (b := -CC (t1 - t2)) (by grind) (by grind)
        grind
      · have := Rat.mul_nonneg (a := 1080000000 - P1) (b := CC (t1 - t2)) (by grind) hc
        grind
    grind
/-- the direction of a position as seen from the exact direction of another, and its distance. -/
theorem pos_dir {a b e f : Int} (hv : vd a b = true) (hw : vd e f = true) : ∃ x m : Int, dv a b e f = at2 m x ∧ 0 ≤ m ∧
    (-(73/10) ≤ (x : Rat) - (CC e * CC f * (rd (cn a * cn b) : Rat) + CC e * SS f * (rd (cn a * sn b) : Rat) + SS e * (sn a : Rat)) ∧ (x : Rat) - (CC e * CC f * (rd (cn a * cn b) : Rat) + CC e * SS f * (rd (cn a * sn b) : Rat) + SS e * (sn a : Rat)) ≤ 73/10) ∧
    (∀ r, nrm (CC e * SS f * (sn a : Rat) - SS e * (rd (cn a * sn b) : Rat)) (SS e * (rd (cn a * cn b) : Rat) - CC e * CC f * (sn a : Rat)) (CC e * CC f * (rd (cn a * sn b) : Rat) - CC e * SS f * (rd (cn a * cn b) : Rat)) r → (m : Rat) ≤ r + 77/10) ∧
    nrm (CC e * SS f * (sn a : Rat) - SS e * (rd (cn a * sn b) : Rat)) (SS e * (rd (cn a * cn b) : Rat) - CC e * CC f * (sn a : Rat)) (CC e * CC f * (rd (cn a * sn b) : Rat) - CC e * SS f * (rd (cn a * cn b) : Rat)) ((m : Rat) + 87/10) ∧
    (-55 ≤ (m : Rat) * CC (at2 m x) - (x : Rat) * SS (at2 m x) ∧ (m : Rat) * CC (at2 m x) - (x : Rat) * SS (at2 m x) ≤ 55) ∧ 1060000000 ≤ (x : Rat) * CC (at2 m x) + (m : Rat) * SS (at2 m x) ∧ (x : Rat) * CC (at2 m x) + (m : Rat) * SS (at2 m x) ≤ 1080000000 := by
  have u1 : Unit3 (rd (cn e * cn f)) (rd (cn e * sn f)) (sn e) := norm_b e f
  have u2 : Unit3 (rd (cn a * cn b)) (rd (cn a * sn b)) (sn a) := norm_b a b
  obtain ⟨_, _, _, bD, s0, s1, _⟩ := dist_b u1 u2
  have hi := isq_bd s0 s1
  have hu := unit_U e f
  have pu := of_nrm hw
  have qn := q_nrm hv
  have nb := (norm_b a b).1
  have nlo := rle2 nb
  simp only [Rat.intCast_mul, Rat.intCast_add, Rat.intCast_sub, Rat.intCast_ofNat] at nlo
  have dx := dot_near pu qn (t := 73/10) (by grind) (by grind)
  have hd := dv_at e f a b
  rw [← dv_sym a b e f] at hd
  have cW0 : ((rd (cn e * sn f) * sn a - sn e * rd (cn a * sn b) : Int) : Rat) = (rd (cn e * sn f) : Rat) * (sn a : Rat) - (sn e : Rat) * (rd (cn a * sn b) : Rat) := by simp only [Rat.intCast_sub, Rat.intCast_mul]
  have cW1 : ((sn e * rd (cn a * cn b) - rd (cn e * cn f) * sn a : Int) : Rat) = (sn e : Rat) * (rd (cn a * cn b) : Rat) - (rd (cn e * cn f) : Rat) * (sn a : Rat) := by simp only [Rat.intCast_sub, Rat.intCast_mul]
  have cW2 : ((rd (cn e * cn f) * rd (cn a * sn b) - rd (cn e * sn f) * rd (cn a * cn b) : Int) : Rat) = (rd (cn e * cn f) : Rat) * (rd (cn a * sn b) : Rat) - (rd (cn e * sn f) : Rat) * (rd (cn a * cn b) : Rat) := by simp only [Rat.intCast_sub, Rat.intCast_mul]
  generalize rd (cn e * sn f) * sn a - sn e * rd (cn a * sn b) = W0 at *
  generalize sn e * rd (cn a * cn b) - rd (cn e * cn f) * sn a = W1 at *
  generalize rd (cn e * cn f) * rd (cn a * sn b) - rd (cn e * sn f) * rd (cn a * cn b) = W2 at *
  generalize rd (rd (cn e * cn f) * rd (cn a * cn b) + rd (cn e * sn f) * rd (cn a * sn b) + sn e * sn a) = x at *
  generalize (rd (cn e * cn f) : Rat) = M0 at *
  generalize (rd (cn e * sn f) : Rat) = M1 at *
  generalize (sn e : Rat) = M2 at *
  generalize (rd (cn a * cn b) : Rat) = P0 at *
  generalize (rd (cn a * sn b) : Rat) = P1 at *
  generalize (sn a : Rat) = P2 at *
  generalize CC e * CC f = U0 at *
  generalize CC e * SS f = U1 at *
  generalize SS e = U2 at *
  have cn1 := nrm_mono (nrm_sc (nrm_cross pu qn) (k := 1/1073741824) (κ := 1/1073741824) (by grind) (by grind)) (t := 671/100) (by grind)
  have ct := csum_two (isq (csum W0 W1 W2)) hi.1 hi.2.1 hi.2.2 (U1 * P2 - U2 * P1) (U2 * P0 - U0 * P2) (U0 * P1 - U1 * P0) (e := 671/100) (by
    have e0 : (W0 : Rat) / 1073741824 - (U1 * P2 - U2 * P1) = 1/1073741824 * ((M1 - 1073741824 * U1) * P2 - (M2 - 1073741824 * U2) * P1) := by rw [cW0]; grind
    have e1 : (W1 : Rat) / 1073741824 - (U2 * P0 - U0 * P2) = 1/1073741824 * ((M2 - 1073741824 * U2) * P0 - (M0 - 1073741824 * U0) * P2) := by rw [cW1]; grind
    have e2 : (W2 : Rat) / 1073741824 - (U0 * P1 - U1 * P0) = 1/1073741824 * ((M0 - 1073741824 * U0) * P1 - (M1 - 1073741824 * U1) * P0) := by rw [cW2]; grind
    rw [e0, e1, e2]; exact cn1)
  obtain ⟨A, B⟩ := ct
  have m0 := hi.1
  generalize isq (csum W0 W1 W2) = m at *
  refine ⟨x, m, hd, m0, dx, fun r h => by have := A r h; grind, nrm_mono B (by grind), ?_⟩
  have M0' : (0 : Rat) ≤ m := by have := rle2 m0; simpa using this
  clear hd hi cW0 cW1 cW2 cn1 pu s0 s1 bD
  -- the exact length across
  have hl : (U1 * P2 - U2 * P1) * (U1 * P2 - U2 * P1) + (U2 * P0 - U0 * P2) * (U2 * P0 - U0 * P2) + (U0 * P1 - U1 * P0) * (U0 * P1 - U1 * P0) + (U0 * P0 + U1 * P1 + U2 * P2) * (U0 * P0 + U1 * P1 + U2 * P2) = P0 * P0 + P1 * P1 + P2 * P2 := by
    have : (U1 * P2 - U2 * P1) * (U1 * P2 - U2 * P1) + (U2 * P0 - U0 * P2) * (U2 * P0 - U0 * P2) + (U0 * P1 - U1 * P0) * (U0 * P1 - U1 * P0) + (U0 * P0 + U1 * P1 + U2 * P2) * (U0 * P0 + U1 * P1 + U2 * P2) = (U0 * U0 + U1 * U1 + U2 * U2) * (P0 * P0 + P1 * P1 + P2 * P2) := by grind
    rw [this, hu]; grind
  have q2 := qn.2
  generalize U0 * P0 + U1 * P1 + U2 * P2 = X at *
  generalize U1 * P2 - U2 * P1 = c0 at *
  generalize U2 * P0 - U0 * P2 = c1 at *
  generalize U0 * P1 - U1 * P0 = c2 at *
  generalize P0 * P0 + P1 * P1 + P2 * P2 = PP at *
  have v0 : 0 ≤ c0 * c0 + c1 * c1 + c2 * c2 := by have := rsq c0; have := rsq c1; have := rsq c2; grind
  have xx := rsq X
  obtain ⟨y, y0, y1, y2, y3⟩ := root ((c0 * c0 + c1 * c1 + c2 * c2) / 1152921504606846976) (by grind) (by grind)
  have sm : (0 : Rat) ≤ 1/1000000000000000 := by grind
  have yy := Rat.mul_nonneg y0 sm
  have a := A (1073741824 * (y + 1/1000000000000000)) ⟨by grind, by grind⟩
  have b : 1073741824 * y ≤ (m : Rat) + 19/10 + 671/100 := by
    refine le_of_sq B.1 ?_
    have := B.2
    grind
  have n1 : nrm X (1073741824 * y) 0 1073741831 := ⟨by grind, by grind⟩
  have n2 : nrm ((x : Rat) - X) ((m : Rat) - 1073741824 * y) 0 12 := ⟨by grind, by
    have k1 := mulab dx.1 dx.2 dx.1 dx.2
    have k2 := mulab (a := (m : Rat) - 1073741824 * y) (b := (m : Rat) - 1073741824 * y) (A := 88/10) (B := 88/10) (by grind) (by grind) (by grind) (by grind)
    grind⟩
  have n3 := nrm_add n1 n2
  have g : ∀ X x : Rat, X + (x - X) = x := fun X x => by grind
  rw [g, g] at n3
  obtain ⟨⟨d1, d2⟩, d3, d4⟩ := dir_u m x 1073741843 (by grind) (by have := n3.2; grind)
  have hl2 := dir_len (x : Rat) (m : Rat) _ _ (CS_unit (at2 m x))
  have lo : 1136000000000000000 ≤ (x : Rat) * x + (m : Rat) * m := by
    refine Classical.byContradiction fun hn => ?_
    have k := nrm_add (show nrm (x : Rat) (m : Rat) 0 1066000000 from ⟨by grind, by grind⟩) (nrm_neg n2)
    have k2 := k.2
    have g1 : (x : Rat) + -((x : Rat) - X) = X := by grind
    have g2 : (m : Rat) + -((m : Rat) - 1073741824 * y) = 1073741824 * y := by grind
    rw [g1, g2] at k2
    grind
  generalize (m : Rat) * CC (at2 m x) - (x : Rat) * SS (at2 m x) = q at *
  generalize (x : Rat) * CC (at2 m x) + (m : Rat) * SS (at2 m x) = p at *
  refine ⟨⟨by grind, by grind⟩, ?_, by grind⟩
  refine Classical.byContradiction fun hn => ?_
  have k1 := mulab (a := q) (b := q) (A := 55) (B := 55) (by grind) (by grind) (by grind) (by grind)
  have k2 := Rat.mul_nonneg (a := 1060000000 - p) (b := 1060000000 + p) (by grind) (by grind)
  grind
end Go.Proofs.Ytgcmmfclnialfaa
