/- The position halfway: its distances differ by at most 8 units (the estimate). -/
import Derived.Test.YtgcmmfclnialfaaLaw09i
namespace Go.Proofs.Ytgcmmfclnialfaa
open Go.RowKit Go.Joins Fdk
set_option linter.unusedVariables false
/-- the part of the difference that lies along the direction of the sum. -/
theorem mids_dot {P0 P1 P2 Q0 Q1 Q2 A0 A1 A2 U0 U1 U2 κ : Rat} (hu : U0 * U0 + U1 * U1 + U2 * U2 = 1) (hκ : U0 * A0 + U1 * A1 + U2 * A2 = κ) (κ0 : 402653100 ≤ κ)
    (pl : 1152921504606846976 - 12884901888 ≤ P0 * P0 + P1 * P1 + P2 * P2) (ph : P0 * P0 + P1 * P1 + P2 * P2 ≤ 1152921504606846976 + 12884901888) (ql : 1152921504606846976 - 12884901888 ≤ Q0 * Q0 + Q1 * Q1 + Q2 * Q2) (qh : Q0 * Q0 + Q1 * Q1 + Q2 * Q2 ≤ 1152921504606846976 + 12884901888)
    (hd : -(7115/10000 * 1152921504606846976) ≤ P0 * Q0 + P1 * Q1 + P2 * Q2)
    (d0 : 0 ≤ P0 + Q0 - 2 * A0 ∧ P0 + Q0 - 2 * A0 ≤ 1) (d1 : 0 ≤ P1 + Q1 - 2 * A1 ∧ P1 + Q1 - 2 * A1 ≤ 1) (d2 : 0 ≤ P2 + Q2 - 2 * A2 ∧ P2 + Q2 - 2 * A2 ≤ 1)
    (hT : A0 * A0 + A1 * A1 + A2 * A2 - κ * κ ≤ 797/10737418240 * κ * (797/10737418240 * κ)) :
    -(1842/10) ≤ U0 * (P0 - Q0) + U1 * (P1 - Q1) + U2 * (P2 - Q2) ∧ U0 * (P0 - Q0) + U1 * (P1 - Q1) + U2 * (P2 - Q2) ≤ 1842/10 := by
  have nT : nrm (A0 - κ * U0) (A1 - κ * U1) (A2 - κ * U2) (797/10737418240 * κ) := ⟨by grind, by
    have : (A0 - κ * U0) * (A0 - κ * U0) + (A1 - κ * U1) * (A1 - κ * U1) + (A2 - κ * U2) * (A2 - κ * U2) = A0 * A0 + A1 * A1 + A2 * A2 - 2 * κ * (U0 * A0 + U1 * A1 + U2 * A2) + κ * κ * (U0 * U0 + U1 * U1 + U2 * U2) := by grind
    rw [this, hu, hκ]; grind⟩
  have nD : nrm (P0 - Q0) (P1 - Q1) (P2 - Q2) 1986744497 := ⟨by grind, by
    have : (P0 - Q0) * (P0 - Q0) + (P1 - Q1) * (P1 - Q1) + (P2 - Q2) * (P2 - Q2) = (P0 * P0 + P1 * P1 + P2 * P2) + (Q0 * Q0 + Q1 * Q1 + Q2 * Q2) - 2 * (P0 * Q0 + P1 * Q1 + P2 * Q2) := by grind
    rw [this]
    generalize P0 * P0 + P1 * P1 + P2 * P2 = a at *
    generalize Q0 * Q0 + Q1 * Q1 + Q2 * Q2 = b at *
    generalize P0 * Q0 + P1 * Q1 + P2 * Q2 = c at *
    clear nT hT this
    grind⟩
  have nδ : nrm (P0 + Q0 - 2 * A0) (P1 + Q1 - 2 * A1) (P2 + Q2 - 2 * A2) (174/100) := by
    have k : ∀ z : Rat, 0 ≤ z ∧ z ≤ 1 → z * z ≤ 1 := fun z h => by
      have := Rat.mul_nonneg (a := 1 - z) (b := z) (by grind) h.1
      grind
    have k0 := k _ d0
    have k1 := k _ d1
    have k2 := k _ d2
    generalize P0 + Q0 - 2 * A0 = x at *
    generalize P1 + Q1 - 2 * A1 = y at *
    generalize P2 + Q2 - 2 * A2 = z at *
    exact ⟨by grind, by grind⟩
  have e1 := nrm_dot nD nT
  have e2 := nrm_dot nD nδ
  have f1 : 2 * κ * (U0 * (P0 - Q0) + U1 * (P1 - Q1) + U2 * (P2 - Q2)) = ((P0 * P0 + P1 * P1 + P2 * P2) - (Q0 * Q0 + Q1 * Q1 + Q2 * Q2)) - ((P0 - Q0) * (P0 + Q0 - 2 * A0) + (P1 - Q1) * (P1 + Q1 - 2 * A1) + (P2 - Q2) * (P2 + Q2 - 2 * A2)) - 2 * ((P0 - Q0) * (A0 - κ * U0) + (P1 - Q1) * (A1 - κ * U1) + (P2 - Q2) * (A2 - κ * U2)) := by grind
  generalize (P0 - Q0) * (P0 + Q0 - 2 * A0) + (P1 - Q1) * (P1 + Q1 - 2 * A1) + (P2 - Q2) * (P2 + Q2 - 2 * A2) = X at *
  generalize (P0 - Q0) * (A0 - κ * U0) + (P1 - Q1) * (A1 - κ * U1) + (P2 - Q2) * (A2 - κ * U2) = Y at *
  generalize P0 * P0 + P1 * P1 + P2 * P2 = a at *
  generalize Q0 * Q0 + Q1 * Q1 + Q2 * Q2 = b at *
  generalize U0 * (P0 - Q0) + U1 * (P1 - Q1) + U2 * (P2 - Q2) = u at *
  clear nT nD nδ hT hd hu hκ d0 d1 d2
  constructor
  · refine Classical.byContradiction fun hn => ?_
    have := Rat.mul_pos (a := κ) (b := -(1842/10) - u) (by grind) (by grind)
    grind
  · refine Classical.byContradiction fun hn => ?_
    have := Rat.mul_pos (a := κ) (b := u - 1842/10) (by grind) (by grind)
    grind
/-- the sum lies across its own direction by little. -/
theorem mids_cross {P0 P1 P2 Q0 Q1 Q2 A0 A1 A2 U0 U1 U2 κ : Rat} (hu : U0 * U0 + U1 * U1 + U2 * U2 = 1) (hκ : U0 * A0 + U1 * A1 + U2 * A2 = κ)
    (d0 : 0 ≤ P0 + Q0 - 2 * A0 ∧ P0 + Q0 - 2 * A0 ≤ 1) (d1 : 0 ≤ P1 + Q1 - 2 * A1 ∧ P1 + Q1 - 2 * A1 ≤ 1) (d2 : 0 ≤ P2 + Q2 - 2 * A2 ∧ P2 + Q2 - 2 * A2 ≤ 1)
    (hT : A0 * A0 + A1 * A1 + A2 * A2 - κ * κ ≤ 6148) :
    nrm (U1 * (P2 + Q2) - U2 * (P1 + Q1)) (U2 * (P0 + Q0) - U0 * (P2 + Q2)) (U0 * (P1 + Q1) - U1 * (P0 + Q0)) (1586/10) := by
  have nU : nrm U0 U1 U2 1 := ⟨by grind, by grind⟩
  have nδ : nrm (P0 + Q0 - 2 * A0) (P1 + Q1 - 2 * A1) (P2 + Q2 - 2 * A2) (174/100) := by
    have k : ∀ z : Rat, 0 ≤ z ∧ z ≤ 1 → z * z ≤ 1 := fun z h => by
      have := Rat.mul_nonneg (a := 1 - z) (b := z) (by grind) h.1
      grind
    have k0 := k _ d0
    have k1 := k _ d1
    have k2 := k _ d2
    generalize P0 + Q0 - 2 * A0 = x at *
    generalize P1 + Q1 - 2 * A1 = y at *
    generalize P2 + Q2 - 2 * A2 = z at *
    exact ⟨by grind, by grind⟩
  have c1 := nrm_cross nU nδ
  have c2 : nrm (U1 * A2 - U2 * A1) (U2 * A0 - U0 * A2) (U0 * A1 - U1 * A0) (7841/100) := ⟨by grind, by
    have : (U1 * A2 - U2 * A1) * (U1 * A2 - U2 * A1) + (U2 * A0 - U0 * A2) * (U2 * A0 - U0 * A2) + (U0 * A1 - U1 * A0) * (U0 * A1 - U1 * A0) = (U0 * U0 + U1 * U1 + U2 * U2) * (A0 * A0 + A1 * A1 + A2 * A2) - (U0 * A0 + U1 * A1 + U2 * A2) * (U0 * A0 + U1 * A1 + U2 * A2) := by grind
    rw [this, hu, hκ]; grind⟩
  have c3 := nrm_add (nrm_smul c2 (k := 2) (by grind)) c1
  have g : ∀ u v p q a b : Rat, 2 * (u * a - v * b) + (u * (p - 2 * a) - v * (q - 2 * b)) = u * p - v * q := fun u v p q a b => by grind
  rw [g, g, g] at c3
  exact nrm_mono c3 (by grind)
theorem CC_135 {t : Int} (t0 : 0 ≤ t) (t1 : t ≤ 48600000) : -(7072/10000) ≤ CC t := by
  obtain ⟨_, h1, h2⟩ := nr_all (a := t) (by omega) (by omega)
  have h3 := rle2 (cn_mono (a := t) (b := 48600000) t0 t1 (by omega))
  have e : cn 48600000 = -759250125 := by rw [show (48600000 : Int) = 16200000 + 32400000 from rfl, cn_plus, sn_E]
  rw [e] at h3
  have z : ((-759250125 : Int) : Rat) = -759250125 := rfl
  rw [z] at h3
  grind
/-- the scalar product of two vectors that are at most 135 degrees apart. -/
theorem dot_135 {a b c d : Int} (hv : vd a b = true) (hw : vd c d = true) (h : dv a b c d ≤ 48600000) : -(7115/10000 * 1152921504606846976) ≤ (rd (cn a * cn b) : Rat) * (rd (cn c * cn d) : Rat) + (rd (cn a * sn b) : Rat) * (rd (cn c * sn d) : Rat) + (sn a : Rat) * (sn c : Rat) := by
  obtain ⟨x, m, ht, m0, ⟨x0, x1⟩, _, _, ⟨q0, q1⟩, p0, p1⟩ := pos_dir hv hw
  have hb := dv_b a b c d
  have hc := CC_135 hb.1 h
  have ⟨⟨c1, c2⟩, s1, s2⟩ := CS_1 (at2 m x)
  rw [ht] at hc
  have hu := CS_unit (at2 m x)
  have ex : (x : Rat) = ((x : Rat) * CC (at2 m x) + (m : Rat) * SS (at2 m x)) * CC (at2 m x) - ((m : Rat) * CC (at2 m x) - (x : Rat) * SS (at2 m x)) * SS (at2 m x) := by
    have : ((x : Rat) * CC (at2 m x) + (m : Rat) * SS (at2 m x)) * CC (at2 m x) - ((m : Rat) * CC (at2 m x) - (x : Rat) * SS (at2 m x)) * SS (at2 m x) = (x : Rat) * (CC (at2 m x) * CC (at2 m x) + SS (at2 m x) * SS (at2 m x)) := by grind
    rw [this, hu]; grind
  have k1 := mulab q0 q1 s1 s2
  have k2 : -763776000 ≤ ((x : Rat) * CC (at2 m x) + (m : Rat) * SS (at2 m x)) * CC (at2 m x) := by
    generalize (x : Rat) * CC (at2 m x) + (m : Rat) * SS (at2 m x) = p at *
    have := Rat.mul_nonneg (a := p) (b := CC (at2 m x) + 7072/10000) (by grind) (by grind)
    grind
  have lo : -763900000 ≤ (x : Rat) := by rw [ex]; grind
  have nq := of_nrm hw
  have np := q_nrm hv
  have e := nrm_dot np nq
  clear ex k1 k2 hu hc q0 q1 p0 p1 nq np
  generalize (rd (cn a * cn b) : Rat) = P0 at *
  generalize (rd (cn a * sn b) : Rat) = P1 at *
  generalize (sn a : Rat) = P2 at *
  generalize (rd (cn c * cn d) : Rat) = Q0 at *
  generalize (rd (cn c * sn d) : Rat) = Q1 at *
  generalize (sn c : Rat) = Q2 at *
  generalize CC c * CC d = U0 at *
  generalize CC c * SS d = U1 at *
  generalize SS c = U2 at *
  have f : P0 * Q0 + P1 * Q1 + P2 * Q2 = 1073741824 * (U0 * P0 + U1 * P1 + U2 * P2) + (P0 * (Q0 - 1073741824 * U0) + P1 * (Q1 - 1073741824 * U1) + P2 * (Q2 - 1073741824 * U2)) := by grind
  rw [f]
  generalize U0 * P0 + U1 * P1 + U2 * P2 = u at *
  generalize P0 * (Q0 - 1073741824 * U0) + P1 * (Q1 - 1073741824 * U1) + P2 * (Q2 - 1073741824 * U2) = v at *
  grind
theorem half_cast (x : Int) : 0 ≤ (x : Rat) - 2 * ((x / 2 : Int) : Rat) ∧ (x : Rat) - 2 * ((x / 2 : Int) : Rat) ≤ 1 := by
  have a := rle2 (show 2 * (x / 2) ≤ x by omega)
  have b := rle2 (show x ≤ 2 * (x / 2) + 1 by omega)
  simp only [Rat.intCast_mul, Rat.intCast_add, Rat.intCast_ofNat] at a b

  constructor <;> grind
theorem mids_plain {a b c d : Int} (hv : vd a b = true) (hw : vd c d = true) (h : dv a b c d ≤ 48600000) :
    ∃ e f, posn ((rd (cn a * cn b) + rd (cn c * cn d)) / 2) ((rd (cn a * sn b) + rd (cn c * sn d)) / 2) ((sn a + sn c) / 2) = (e, f, 0) ∧ vd e f = true ∧ -8 ≤ dv a b e f - dv e f c d ∧ dv a b e f - dv e f c d ≤ 8 := by
  have hd := dot_135 hv hw h
  have np := norm_b a b
  have nq := norm_b c d
  have pl := rle2 np.1
  have ph := rle2 np.2
  have ql := rle2 nq.1
  have qh := rle2 nq.2
  simp only [Rat.intCast_mul, Rat.intCast_add, Rat.intCast_sub, Rat.intCast_ofNat] at pl ph ql qh
  have o0 := one_rd (cc_b a b)
  have o1 := one_rd (cs_b a b)
  have o2 := sn_b a
  have r0 := one_rd (cc_b c d)
  have r1 := one_rd (cs_b c d)
  have r2 := sn_b c
  have pdp := fun e f => pos_dir (e := e) (f := f) hv
  have pdq := fun e f => pos_dir (e := e) (f := f) hw
  have d0 := half_cast (rd (cn a * cn b) + rd (cn c * cn d))
  have d1 := half_cast (rd (cn a * sn b) + rd (cn c * sn d))
  have d2 := half_cast (sn a + sn c)
  rw [Rat.intCast_add] at d0 d1 d2
  have b0 : -1342177280 ≤ (rd (cn a * cn b) + rd (cn c * cn d)) / 2 ∧ (rd (cn a * cn b) + rd (cn c * cn d)) / 2 ≤ 1342177280 := by unfold One1 at o0 r0; omega
  have b1 : -1342177280 ≤ (rd (cn a * sn b) + rd (cn c * sn d)) / 2 ∧ (rd (cn a * sn b) + rd (cn c * sn d)) / 2 ≤ 1342177280 := by unfold One1 at o1 r1; omega
  have b2 : -1342177280 ≤ (sn a + sn c) / 2 ∧ (sn a + sn c) / 2 ≤ 1342177280 := by omega
  have sym := fun e f => dv_sym e f c d
  clear o0 o1 o2 r0 r1 r2 np nq h
  generalize hA0 : (rd (cn a * cn b) + rd (cn c * cn d)) / 2 = A0 at *
  generalize hA1 : (rd (cn a * sn b) + rd (cn c * sn d)) / 2 = A1 at *
  generalize hA2 : (sn a + sn c) / 2 = A2 at *
  clear hA0 hA1 hA2
  generalize (rd (cn a * cn b) : Rat) = P0 at *
  generalize (rd (cn a * sn b) : Rat) = P1 at *
  generalize (sn a : Rat) = P2 at *
  generalize (rd (cn c * cn d) : Rat) = Q0 at *
  generalize (rd (cn c * sn d) : Rat) = Q1 at *
  generalize (sn c : Rat) = Q2 at *
  have eS : (P0 + Q0) * (P0 + Q0) + (P1 + Q1) * (P1 + Q1) + (P2 + Q2) * (P2 + Q2) = (P0 * P0 + P1 * P1 + P2 * P2) + (Q0 * Q0 + Q1 * Q1 + Q2 * Q2) + 2 * (P0 * Q0 + P1 * Q1 + P2 * Q2) := by grind
  have nδ : nrm (P0 + Q0 - 2 * (A0 : Rat)) (P1 + Q1 - 2 * (A1 : Rat)) (P2 + Q2 - 2 * (A2 : Rat)) (174/100) := by
    have k : ∀ z : Rat, 0 ≤ z ∧ z ≤ 1 → z * z ≤ 1 := fun z h => by
      have := Rat.mul_nonneg (a := 1 - z) (b := z) (by grind) h.1
      grind
    have k0 := k _ d0
    have k1 := k _ d1
    have k2 := k _ d2
    generalize P0 + Q0 - 2 * (A0 : Rat) = x at *
    generalize P1 + Q1 - 2 * (A1 : Rat) = y at *
    generalize P2 + Q2 - 2 * (A2 : Rat) = z at *
    clear eS hd pl ph ql qh pdp pdq
    exact ⟨by grind, by grind⟩
  have nP : nrm P0 P1 P2 1073741831 := ⟨by grind, by grind⟩
  have nQ : nrm Q0 Q1 Q2 1073741831 := ⟨by grind, by grind⟩
  have g1 : ∀ p q a : Rat, 1/2 * (p + q + -(p + q - 2 * a)) = a := fun p q a => by grind
  have nA := nrm_smul (nrm_add (nrm_add nP nQ) (nrm_neg nδ)) (k := 1/2) (by grind)
  rw [g1, g1, g1] at nA
  have nA' := nrm_mono nA (t := 1073741832) (by grind)
  have lo : 402653184 * 402653184 ≤ (A0 : Rat) * A0 + (A1 : Rat) * A1 + (A2 : Rat) * A2 := by
    refine Classical.byContradiction fun hn => ?_
    have k := nrm_add (nrm_smul (show nrm (A0 : Rat) A1 A2 402653184 from ⟨by grind, by grind⟩) (k := 2) (by grind)) nδ
    have g2 : ∀ p q a : Rat, 2 * a + (p + q - 2 * a) = p + q := fun p q a => by grind
    rw [g2, g2, g2] at k
    have := k.2
    rw [eS] at this
    clear g1 g2 nA nA' nP nQ nδ k eS pdp pdq
    grind
  have hne : ¬ (A0 = 0 ∧ A1 = 0 ∧ A2 = 0) := by
    rintro ⟨rfl, rfl, rfl⟩
    have z : ((0 : Int) : Rat) = 0 := rfl
    rw [z] at lo
    grind
  obtain ⟨e, f, hp, hvv, ⟨e1, e2⟩, ⟨n1, n2⟩, u1⟩ := posn_dir A0 A1 A2 b0 b1 b2 hne 1073741832 (by grind) nA'.2
  have hid := comp_id e f (A0 : Rat) A1 A2
  have sE := mulab (a := cE f A0 A1) (b := cE f A0 A1) (A := 5494/100) (B := 5494/100) (by grind) (by grind) (by grind) (by grind)
  have sN := mulab (a := cN e f A0 A1 A2) (b := cN e f A0 A1 A2) (A := 5594/100) (B := 5594/100) (by grind) (by grind) (by grind) (by grind)
  have hκ : 402653100 ≤ cU e f A0 A1 A2 := by
    refine Classical.byContradiction fun hn => ?_
    have := Rat.mul_nonneg (a := 402653100 - cU e f A0 A1 A2) (b := 402653100 + cU e f A0 A1 A2) (by grind) (by grind)
    grind
  obtain ⟨e', f', hp', _, ⟨e1', e2'⟩, ⟨n1', n2'⟩, _⟩ := posn_dir A0 A1 A2 b0 b1 b2 hne (cU e f A0 A1 A2 + 1) (by grind) (by grind)
  obtain ⟨rfl, rfl⟩ : e' = e ∧ f' = f := by
    rw [hp] at hp'
    have h1 := congrArg Prod.fst hp'
    have h2 := congrArg (fun z => z.2.1) hp'
    exact ⟨h1.symm, h2.symm⟩
  refine ⟨e', f', hp, hvv, ?_⟩
  have hu := unit_U e' f'
  have hU : CC e' * CC f' * (A0 : Rat) + CC e' * SS f' * (A1 : Rat) + SS e' * (A2 : Rat) = cU e' f' A0 A1 A2 := by unfold cU cH; grind
  have hT : (A0 : Rat) * A0 + (A1 : Rat) * A1 + (A2 : Rat) * A2 - cU e' f' A0 A1 A2 * cU e' f' A0 A1 A2 ≤ 6148 := by grind
  have hT2 : (A0 : Rat) * A0 + (A1 : Rat) * A1 + (A2 : Rat) * A2 - cU e' f' A0 A1 A2 * cU e' f' A0 A1 A2 ≤ 797/10737418240 * cU e' f' A0 A1 A2 * (797/10737418240 * cU e' f' A0 A1 A2) := by
    have tE := mulab (a := cE f' A0 A1) (b := cE f' A0 A1) (A := 54931/1073741824000 * cU e' f' A0 A1 A2) (B := 54931/1073741824000 * cU e' f' A0 A1 A2) (by grind) (by grind) (by grind) (by grind)
    have tN := mulab (a := cN e' f' A0 A1 A2) (b := cN e' f' A0 A1 A2) (A := 57600/1073741824000 * cU e' f' A0 A1 A2) (B := 57600/1073741824000 * cU e' f' A0 A1 A2) (by grind) (by grind) (by grind) (by grind)
    have := rsq (cU e' f' A0 A1 A2)
    grind
  have mc := mids_cross hu hU d0 d1 d2 hT
  have md := mids_dot hu hU hκ pl ph ql qh hd d0 d1 d2 hT2
  obtain ⟨x1, m1, t1, m10, hx1, A1', B1, q1, p1, p1'⟩ := pdp e' f' hvv
  obtain ⟨x2, m2, t2, m20, hx2, A2', B2, q2, p2, p2'⟩ := pdq e' f' hvv
  have k1 := at2_half x1 m10
  have k2 := at2_half x2 m20
  rw [sym e' f', t1, t2]
  clear sE sN hT hT2 hid e1 e2 n1 n2 e1' e2' n1' n2' lo nA nA' nP nQ nδ eS hd pl ph ql qh sym pdp pdq hU hκ d0 d1 d2
  generalize CC e' * CC f' = U0 at *
  generalize CC e' * SS f' = U1 at *
  generalize SS e' = U2 at *
  have w1 := A1' _ (by
    have := nrm_add mc (nrm_neg B2)
    have g : ∀ u v p q r s : Rat, u * (p + q) - v * (r + s) + -(u * q - v * s) = u * p - v * r := fun u v p q r s => by grind
    rw [g, g, g] at this
    exact this)
  have w2 := A2' _ (by
    have := nrm_add mc (nrm_neg B1)
    have g : ∀ u v p q r s : Rat, u * (p + q) - v * (r + s) + -(u * p - v * r) = u * q - v * s := fun u v p q r s => by grind
    rw [g, g, g] at this
    exact this)
  have ed : U0 * (P0 - Q0) + U1 * (P1 - Q1) + U2 * (P2 - Q2) = (U0 * P0 + U1 * P1 + U2 * P2) - (U0 * Q0 + U1 * Q1 + U2 * Q2) := by grind
  rw [ed] at md
  generalize U0 * P0 + U1 * P1 + U2 * P2 = X1 at *
  generalize U0 * Q0 + U1 * Q1 + U2 * Q2 = X2 at *
  clear mc B1 B2 A1' A2' ed
  exact two_dirs ⟨(at2_b _ _).1, k1⟩ ⟨(at2_b _ _).1, k2⟩ q1 p1 p1' q2 p2 ⟨by grind, by grind⟩ ⟨by grind, by grind⟩
end Go.Proofs.Ytgcmmfclnialfaa
