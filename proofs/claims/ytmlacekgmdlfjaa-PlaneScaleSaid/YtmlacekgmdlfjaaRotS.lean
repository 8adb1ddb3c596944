/- Course and distance lead to the other position: the exact direction. -/
import Derived.Test.YtmlacekgmdlfjaaRotR
namespace Go.Proofs.Ytmlacekgmdlfjaa
open Go.RowKit Go.Joins Fdk
set_option linter.unusedVariables false
/-- a direction's error, for the bound R of the length (unsigned answer). -/
theorem dir_u (y x : Int) (R : Rat) (r0 : 0 ≤ R) (h : (x : Rat) * x + (y : Rat) * y ≤ R * R) :
    (-(5492/100 * R) ≤ 1073741824 * ((y : Rat) * CC (at2 y x) - (x : Rat) * SS (at2 y x)) ∧ 1073741824 * ((y : Rat) * CC (at2 y x) - (x : Rat) * SS (at2 y x)) ≤ 5492/100 * R) ∧
    0 ≤ (x : Rat) * CC (at2 y x) + (y : Rat) * SS (at2 y x) ∧ (x : Rat) * CC (at2 y x) + (y : Rat) * SS (at2 y x) ≤ R := by
  have x0 := iabs_le x
  have y0 := iabs_le y
  have hx := iabs_sq x
  have hy := iabs_sq y
  have d := at2_dir y x
  have hl := dir_len (x : Rat) (y : Rat) _ _ (CS_unit (at2 y x))
  have L := lsum (X := (iabs x : Rat)) (Y := (iabs y : Rat)) r0 (by grind)
  obtain ⟨⟨d1, d2⟩, d3⟩ := d
  generalize (x : Rat) * CC (at2 y x) + (y : Rat) * SS (at2 y x) = p at *
  generalize (y : Rat) * CC (at2 y x) - (x : Rat) * SS (at2 y x) = q at *
  have hp := sq_le_r (a := p) r0 (by have := rsq q; grind)
  refine ⟨⟨?_, ?_⟩, ?_, hp.2⟩ <;> grind
/-- a rounded scalar product against the exact one. -/
theorem dot_near {p0 p1 p2 q0 q1 q2 : Int} {P0 P1 P2 r t : Rat} (hp : nrm ((p0 : Rat) - 1073741824 * P0) ((p1 : Rat) - 1073741824 * P1) ((p2 : Rat) - 1073741824 * P2) r) (hq : nrm (q0 : Rat) (q1 : Rat) (q2 : Rat) 1073741831) (hr : r ≤ 10) (ht : r + 51/100 ≤ t) :
    -t ≤ (rd (p0 * q0 + p1 * q1 + p2 * q2) : Rat) - (P0 * q0 + P1 * q1 + P2 * q2) ∧ (rd (p0 * q0 + p1 * q1 + p2 * q2) : Rat) - (P0 * q0 + P1 * q1 + P2 * q2) ≤ t := by
  have h := rd_r (p0 * q0 + p1 * q1 + p2 * q2)
  simp only [Rat.intCast_mul, Rat.intCast_add] at h
  have d := nrm_dot hp hq
  have e : ((p0 : Rat) - 1073741824 * P0) * q0 + ((p1 : Rat) - 1073741824 * P1) * q1 + ((p2 : Rat) - 1073741824 * P2) * q2 = ((p0 : Rat) * q0 + (p1 : Rat) * q1 + (p2 : Rat) * q2) - 1073741824 * (P0 * q0 + P1 * q1 + P2 * q2) := by grind
  rw [e] at d
  have r0 := hp.1
  generalize (p0 : Rat) * q0 + (p1 : Rat) * q1 + (p2 : Rat) * q2 = S at *
  generalize P0 * (q0 : Rat) + P1 * q1 + P2 * q2 = T at *
  constructor <;> grind
theorem q_nrm {c d : Int} (hv : vd c d = true) : nrm (rd (cn c * cn d) : Rat) (rd (cn c * sn d) : Rat) (sn c : Rat) 1073741831 := by
  have n := of_nrm hv
  have u : nrm (1073741824 * (CC c * CC d)) (1073741824 * (CC c * SS d)) (1073741824 * SS c) 1073741824 := ⟨by grind, by
    have h := unit_U c d
    have e : 1073741824 * (CC c * CC d) * (1073741824 * (CC c * CC d)) + 1073741824 * (CC c * SS d) * (1073741824 * (CC c * SS d)) + 1073741824 * SS c * (1073741824 * SS c) = 1152921504606846976 * (CC c * CC d * (CC c * CC d) + CC c * SS d * (CC c * SS d) + SS c * SS c) := by grind
    rw [e, h]; grind⟩
  have s := nrm_add u n
  have g : ∀ x X : Rat, X + (x - X) = x := fun x X => by grind
  rw [g, g, g] at s
  exact nrm_mono s (by grind)
theorem comp_id (a b : Int) (x y z : Rat) : cE b x y * cE b x y + cN a b x y z * cN a b x y z + cU a b x y z * cU a b x y z = x * x + y * y + z * z := by
  have h1 := CS_unit a
  have h2 := CS_unit b
  have k1 : cH b x y * cH b x y + cE b x y * cE b x y = x * x + y * y := dir_len _ _ _ _ h2
  have k2 : cU a b x y z * cU a b x y z + cN a b x y z * cN a b x y z = cH b x y * cH b x y + z * z := by
    have := dir_len (cH b x y) z _ _ h1
    unfold cU cN; exact this
  grind
/-- the local components that the program computes are near the exact ones. -/
theorem loc_near {a b c d : Int} (hv : vd a b = true) (hw : vd c d = true) :
    (-(35/10) ≤ (lx b c d : Rat) - cE b (rd (cn c * cn d)) (rd (cn c * sn d)) ∧ (lx b c d : Rat) - cE b (rd (cn c * cn d)) (rd (cn c * sn d)) ≤ 35/10) ∧
    (-(73/10) ≤ (ly a b c d : Rat) - cN a b (rd (cn c * cn d)) (rd (cn c * sn d)) (sn c) ∧ (ly a b c d : Rat) - cN a b (rd (cn c * cn d)) (rd (cn c * sn d)) (sn c) ≤ 73/10) ∧
    (-(73/10) ≤ (lz a b c d : Rat) - cU a b (rd (cn c * cn d)) (rd (cn c * sn d)) (sn c) ∧ (lz a b c d : Rat) - cU a b (rd (cn c * cn d)) (rd (cn c * sn d)) (sn c) ≤ 73/10) := by
  have ⟨v1, v2⟩ := vd_of hv
  obtain ⟨⟨a1, a2⟩, a3, a4⟩ := nr_all (a := a) (by omega) (by omega)
  obtain ⟨⟨b1, b2⟩, b3, b4⟩ := nr_all (a := b) (by omega) (by omega)
  have hc := sn_b a
  have ⟨⟨c1, c2⟩, s1, s2⟩ := CS_1 b
  have qn := q_nrm hw
  have pe : nrm (((-sn b : Int) : Rat) - 1073741824 * (-SS b)) (((cn b : Int) : Rat) - 1073741824 * CC b) (((0 : Int) : Rat) - 1073741824 * 0) (29/10) := by
    have z0 : ((0 : Int) : Rat) = 0 := rfl
    rw [rneg, z0]
    exact nrm_comp (A := 2) (B := 2) (C := 0) (by grind) (by grind) (by grind) (by grind) (by grind) (by grind) (by grind) (by grind)
  have r1 := prod_r hc.1 hc.2 a1 a2 b3 b4 c1 c2
  have r2 := prod_r hc.1 hc.2 a1 a2 b1 b2 s1 s2
  have pn : nrm (((-rd (sn a * cn b) : Int) : Rat) - 1073741824 * (-(SS a * CC b))) (((-rd (sn a * sn b) : Int) : Rat) - 1073741824 * (-(SS a * SS b))) (((cn a : Int) : Rat) - 1073741824 * CC a) (67/10) := by
    rw [rneg, rneg]
    exact nrm_comp (A := 9/2) (B := 9/2) (C := 2) (by grind) (by grind) (by grind) (by grind) (by grind) (by grind) (by grind) (by grind)
  have pu := of_nrm hv
  have d1 := dot_near pe qn (t := 35/10) (by grind) (by grind)
  have d2 := dot_near pn qn (t := 73/10) (by grind) (by grind)
  have d3 := dot_near pu qn (t := 73/10) (by grind) (by grind)
  rw [Int.zero_mul, Int.add_zero] at d1
  refine ⟨?_, ?_, ?_⟩
  · unfold lx cE
    generalize (rd (cn c * cn d) : Rat) = x at *
    generalize (rd (cn c * sn d) : Rat) = y at *
    constructor <;> grind
  · unfold ly cN cH
    generalize (rd (cn c * cn d) : Rat) = x at *
    generalize (rd (cn c * sn d) : Rat) = y at *
    constructor <;> grind
  · unfold lz cU cH
    generalize (rd (cn c * cn d) : Rat) = x at *
    generalize (rd (cn c * sn d) : Rat) = y at *
    constructor <;> grind
end Go.Proofs.Ytmlacekgmdlfjaa
