/- The plane around an origin, against the exact directions (plain). -/
import Derived.Test.YtmlacekgmdlfjaaRotS
import Derived.Test.YtmlacekgmdlfjaaPlnD
import Derived.Test.YtmlacekgmdlfjaaPlnB
import Derived.Test.YtmlacekgmdlfjaaRotY
import Derived.Test.YtmlacekgmdlfjaaAln
namespace Go.Proofs.Ytmlacekgmdlfjaa
open Go.RowKit Go.Joins Fdk
set_option linter.unusedVariables false
/-- the exact vector of a point of the plane. -/
def wX (a b : Int) (u v : Rat) : Rat := CC a * CC b + u * -SS b + v * -(SS a * CC b)
def wY (a b : Int) (u v : Rat) : Rat := CC a * SS b + u * CC b + v * -(SS a * SS b)
def wZ (a b : Int) (u v : Rat) : Rat := SS a + u * 0 + v * CC a
theorem w_comp (a b : Int) (u v : Rat) : cE b (wX a b u v) (wY a b u v) = u ∧ cN a b (wX a b u v) (wY a b u v) (wZ a b u v) = v ∧ cU a b (wX a b u v) (wY a b u v) (wZ a b u v) = 1 := by
  have h1 := CS_unit a
  have h2 := CS_unit b
  have hH : cH b (wX a b u v) (wY a b u v) = CC a - v * SS a := by
    unfold cH wX wY
    have : (CC a * CC b + u * -SS b + v * -(SS a * CC b)) * CC b + (CC a * SS b + u * CC b + v * -(SS a * SS b)) * SS b = (CC a - v * SS a) * (CC b * CC b + SS b * SS b) := by grind
    rw [this, h2]; grind
  refine ⟨?_, ?_, ?_⟩
  · unfold cE wX wY
    have : (CC a * SS b + u * CC b + v * -(SS a * SS b)) * CC b - (CC a * CC b + u * -SS b + v * -(SS a * CC b)) * SS b = u * (CC b * CC b + SS b * SS b) := by grind
    rw [this, h2]; grind
  · unfold cN wZ
    rw [hH]
    have : (SS a + u * 0 + v * CC a) * CC a - (CC a - v * SS a) * SS a = v * (CC a * CC a + SS a * SS a) := by grind
    rw [this, h1]; grind
  · unfold cU wZ
    rw [hH]
    have : (CC a - v * SS a) * CC a + (SS a + u * 0 + v * CC a) * SS a = CC a * CC a + SS a * SS a := by grind
    rw [this, h1]
theorem comp_b (a b : Int) {x y z r : Rat} (h : nrm x y z r) : (-r ≤ cE b x y ∧ cE b x y ≤ r) ∧ (-r ≤ cN a b x y z ∧ cN a b x y z ≤ r) ∧ (-r ≤ cU a b x y z ∧ cU a b x y z ≤ r) := by
  have e := comp_id a b x y z
  have n1 := rsq (cE b x y)
  have n2 := rsq (cN a b x y z)
  have n3 := rsq (cU a b x y z)
  have h2 := h.2
  exact ⟨sq_le_r h.1 (by grind), sq_le_r h.1 (by grind), sq_le_r h.1 (by grind)⟩
theorem comp_nrm (a b : Int) {x y z r A B C : Rat} (r0 : 0 ≤ r) (h1 : -A ≤ cE b x y) (h2 : cE b x y ≤ A) (h3 : -B ≤ cN a b x y z) (h4 : cN a b x y z ≤ B) (h5 : -C ≤ cU a b x y z) (h6 : cU a b x y z ≤ C) (h : A * A + B * B + C * C ≤ r * r) : nrm x y z r := by
  have e := comp_id a b x y z
  have k1 := mulab h1 h2 h1 h2
  have k2 := mulab h3 h4 h3 h4
  have k3 := mulab h5 h6 h5 h6
  exact ⟨r0, by grind⟩
theorem comp_sub (a b : Int) (x y z p q s k : Rat) : cE b (x - k * p) (y - k * q) = cE b x y - k * cE b p q ∧ cN a b (x - k * p) (y - k * q) (z - k * s) = cN a b x y z - k * cN a b p q s ∧ cU a b (x - k * p) (y - k * q) (z - k * s) = cU a b x y z - k * cU a b p q s := by
  unfold cE cN cU cH
  refine ⟨?_, ?_, ?_⟩ <;> grind
theorem comp_mul (a b : Int) (x y z k : Rat) : cE b (k * x) (k * y) = k * cE b x y ∧ cN a b (k * x) (k * y) (k * z) = k * cN a b x y z ∧ cU a b (k * x) (k * y) (k * z) = k * cU a b x y z := by
  unfold cE cN cU cH
  refine ⟨?_, ?_, ?_⟩ <;> grind
/-- a rounded quotient, in rationals. -/
theorem qnear_r (p c : Int) (hc : 1 ≤ c) : -((c : Rat) / 2) ≤ (qnear p c : Rat) * c - p ∧ (qnear p c : Rat) * c - p ≤ (c : Rat) / 2 := by
  have e := Int.mul_ediv_add_emod (2 * p + c) (2 * c)
  have r0 := Int.emod_nonneg (2 * p + c) (by omega : 2 * c ≠ 0)
  have r1 := Int.emod_lt_of_pos (2 * p + c) (by omega : 0 < 2 * c)
  have e2 : 2 * (qnear p c * c) = 2 * c * ((2 * p + c) / (2 * c)) := by unfold qnear; rw [Int.mul_comm _ c, Int.mul_assoc]
  have h1 : 2 * (qnear p c * c) ≤ 2 * p + c := by omega
  have h2 : 2 * p - c ≤ 2 * (qnear p c * c) := by omega
  have a := rle2 h1
  have b := rle2 h2
  simp only [Rat.intCast_mul, Rat.intCast_add, Rat.intCast_sub, Rat.intCast_ofNat] at a b
  constructor <;> grind
theorem xi_b {x : Int} (h0 : -2000000 ≤ x) (h1 : x ≤ 2000000) : -(97/1000) ≤ (x : Rat) / 20626481 ∧ (x : Rat) / 20626481 ≤ 97/1000 ∧ (x : Rat) / 20626481 * ((x : Rat) / 20626481) ≤ 9402/1000000 := by
  have a := rle2 h0
  have b := rle2 h1
  simp only [Rat.intCast_neg, Rat.intCast_ofNat] at a b
  have k := mulab (a := (x : Rat)) (b := (x : Rat)) (A := 2000000) (B := 2000000) a b a b
  refine ⟨by grind, by grind, by grind⟩
/-- the whole vector of a point. -/
theorem from_vec {a b x y : Int} (hv : vd a b = true) (hp : pvd x y = true) :
    nrm ((qnear (20626481 * rd (cn a * cn b) - sn b * x - rd (sn a * cn b) * y) 20626481 : Rat) - 1073741824 * wX a b ((x : Rat) / 20626481) ((y : Rat) / 20626481))
      ((qnear (20626481 * rd (cn a * sn b) + cn b * x - rd (sn a * sn b) * y) 20626481 : Rat) - 1073741824 * wY a b ((x : Rat) / 20626481) ((y : Rat) / 20626481))
      ((qnear (20626481 * sn a + cn a * y) 20626481 : Rat) - 1073741824 * wZ a b ((x : Rat) / 20626481) ((y : Rat) / 20626481)) (86/10) := by
  have ⟨p1, p2⟩ := pvd_of hp
  have ⟨v1, v2⟩ := vd_of hv
  obtain ⟨⟨a1, a2⟩, a3, a4⟩ := nr_all (a := a) (by omega) (by omega)
  obtain ⟨⟨b1, b2⟩, b3, b4⟩ := nr_all (a := b) (by omega) (by omega)
  have hc := sn_b a
  have ⟨⟨c1, c2⟩, s1, s2⟩ := CS_1 b
  have ⟨x1, x2, _⟩ := xi_b p1.1 p1.2
  have ⟨y1, y2, _⟩ := xi_b p2.1 p2.2
  have q0 := qnear_r (20626481 * rd (cn a * cn b) - sn b * x - rd (sn a * cn b) * y) 20626481 (by omega)
  have q1 := qnear_r (20626481 * rd (cn a * sn b) + cn b * x - rd (sn a * sn b) * y) 20626481 (by omega)
  have q2 := qnear_r (20626481 * sn a + cn a * y) 20626481 (by omega)
  have pu := of_nrm hv
  have pe : nrm (-(sn b : Rat) - 1073741824 * (-SS b)) ((cn b : Rat) - 1073741824 * CC b) (0 - 1073741824 * 0) (29/10) :=
    nrm_comp (A := 2) (B := 2) (C := 0) (by grind) (by grind) (by grind) (by grind) (by grind) (by grind) (by grind) (by grind)
  have r1 := prod_r hc.1 hc.2 a1 a2 b3 b4 c1 c2
  have r2 := prod_r hc.1 hc.2 a1 a2 b1 b2 s1 s2
  have pn : nrm (-(rd (sn a * cn b) : Rat) - 1073741824 * (-(SS a * CC b))) (-(rd (sn a * sn b) : Rat) - 1073741824 * (-(SS a * SS b))) ((cn a : Rat) - 1073741824 * CC a) (67/10) :=
    nrm_comp (A := 9/2) (B := 9/2) (C := 2) (by grind) (by grind) (by grind) (by grind) (by grind) (by grind) (by grind) (by grind)
  simp only [Rat.intCast_mul, Rat.intCast_add, Rat.intCast_sub, Rat.intCast_ofNat] at q0 q1 q2
  unfold wX wY wZ
  generalize ((qnear (20626481 * rd (cn a * cn b) - sn b * x - rd (sn a * cn b) * y) 20626481 : Int) : Rat) = V0 at *
  generalize ((qnear (20626481 * rd (cn a * sn b) + cn b * x - rd (sn a * sn b) * y) 20626481 : Int) : Rat) = V1 at *
  generalize ((qnear (20626481 * sn a + cn a * y) 20626481 : Int) : Rat) = V2 at *
  have m1 := nrm_sc pe (k := (x : Rat) / 20626481) (κ := 97/1000) x1 x2
  have m2 := nrm_sc pn (k := (y : Rat) / 20626481) (κ := 97/1000) y1 y2
  have m3 : nrm (V0 - (rd (cn a * cn b) : Rat) - (x : Rat) / 20626481 * -(sn b : Rat) - (y : Rat) / 20626481 * -(rd (sn a * cn b) : Rat)) (V1 - (rd (cn a * sn b) : Rat) - (x : Rat) / 20626481 * (cn b : Rat) - (y : Rat) / 20626481 * -(rd (sn a * sn b) : Rat)) (V2 - (sn a : Rat) - (y : Rat) / 20626481 * (cn a : Rat)) (88/100) :=
    nrm_comp (A := 1/2) (B := 1/2) (C := 1/2) (by grind) (by grind) (by grind) (by grind) (by grind) (by grind) (by grind) (by grind)
  have s := nrm_add (nrm_add (nrm_add pu m1) m2) m3
  generalize (rd (cn a * cn b) : Rat) = P0 at *
  generalize (rd (cn a * sn b) : Rat) = P1 at *
  generalize (sn a : Rat) = P2 at *
  generalize (x : Rat) / 20626481 = u at *
  generalize (y : Rat) / 20626481 = v at *
  have e0 : P0 - 1073741824 * (CC a * CC b) + u * (-(sn b : Rat) - 1073741824 * -SS b) + v * (-(rd (sn a * cn b) : Rat) - 1073741824 * -(SS a * CC b)) + (V0 - P0 - u * -(sn b : Rat) - v * -(rd (sn a * cn b) : Rat)) = V0 - 1073741824 * (CC a * CC b + u * -SS b + v * -(SS a * CC b)) := by grind
  have e1 : P1 - 1073741824 * (CC a * SS b) + u * ((cn b : Rat) - 1073741824 * CC b) + v * (-(rd (sn a * sn b) : Rat) - 1073741824 * -(SS a * SS b)) + (V1 - P1 - u * (cn b : Rat) - v * -(rd (sn a * sn b) : Rat)) = V1 - 1073741824 * (CC a * SS b + u * CC b + v * -(SS a * SS b)) := by grind
  have e2 : P2 - 1073741824 * SS a + u * (0 - 1073741824 * 0) + v * ((cn a : Rat) - 1073741824 * CC a) + (V2 - P2 - v * (cn a : Rat)) = V2 - 1073741824 * (SS a + u * 0 + v * CC a) := by grind
  rw [e0, e1, e2] at s
  exact nrm_mono s (by grind)
theorem w_len (a b : Int) (u v : Rat) : wX a b u v * wX a b u v + wY a b u v * wY a b u v + wZ a b u v * wZ a b u v = 1 + u * u + v * v := by
  have e := comp_id a b (wX a b u v) (wY a b u v) (wZ a b u v)
  obtain ⟨e1, e2, e3⟩ := w_comp a b u v
  rw [e1, e2, e3] at e
  grind
/-- the exact direction of the position of a point, and its length. -/
theorem from_near {a b x y : Int} (ho : org a b = true) (hp : pvd x y = true) : ∃ e f L, frv a b x y = (e, f, 0) ∧ vd e f = true ∧ (1073741700 ≤ L ∧ L ≤ 1083900000) ∧
    nrm (L * (CC e * CC f) - 1073741824 * wX a b ((x : Rat) / 20626481) ((y : Rat) / 20626481)) (L * (CC e * SS f) - 1073741824 * wY a b ((x : Rat) / 20626481) ((y : Rat) / 20626481)) (L * SS e - 1073741824 * wZ a b ((x : Rat) / 20626481) ((y : Rat) / 20626481)) 88 := by
  have hv := org_vd ho
  have ⟨p1, p2⟩ := pvd_of hp
  have ⟨x1, x2, x3⟩ := xi_b p1.1 p1.2
  have ⟨y1, y2, y3⟩ := xi_b p2.1 p2.2
  have hn := from_vec hv hp
  have hl := w_len a b ((x : Rat) / 20626481) ((y : Rat) / 20626481)
  have un := rsq ((x : Rat) / 20626481)
  have vn := rsq ((y : Rat) / 20626481)
  have hf : frv a b x y = posn (qnear (20626481 * rd (cn a * cn b) - sn b * x - rd (sn a * cn b) * y) 20626481) (qnear (20626481 * rd (cn a * sn b) + cn b * x - rd (sn a * sn b) * y) 20626481) (qnear (20626481 * sn a + cn a * y) 20626481) := by
    unfold frv; rw [if_pos ho, if_pos hp]
  rw [hf]
  generalize qnear (20626481 * rd (cn a * cn b) - sn b * x - rd (sn a * cn b) * y) 20626481 = V0 at *
  generalize qnear (20626481 * rd (cn a * sn b) + cn b * x - rd (sn a * sn b) * y) 20626481 = V1 at *
  generalize qnear (20626481 * sn a + cn a * y) 20626481 = V2 at *
  generalize wX a b ((x : Rat) / 20626481) ((y : Rat) / 20626481) = X at *
  generalize wY a b ((x : Rat) / 20626481) ((y : Rat) / 20626481) = Y at *
  generalize wZ a b ((x : Rat) / 20626481) ((y : Rat) / 20626481) = Z at *
  generalize (x : Rat) / 20626481 = u at *
  generalize (y : Rat) / 20626481 = v at *
  have nW : nrm (1073741824 * X) (1073741824 * Y) (1073741824 * Z) 1083791000 := ⟨by grind, by
    have : 1073741824 * X * (1073741824 * X) + 1073741824 * Y * (1073741824 * Y) + 1073741824 * Z * (1073741824 * Z) = 1152921504606846976 * (X * X + Y * Y + Z * Z) := by grind
    rw [this, hl]; grind⟩
  have g : ∀ x X : Rat, 1073741824 * X + (x - 1073741824 * X) = x := fun x X => by grind
  have nV := nrm_add nW hn
  rw [g, g, g] at nV
  have nV' : nrm (V0 : Rat) V1 V2 1083791009 := nrm_mono nV (by grind)
  have one : nrm 1 0 0 1 := ⟨by grind, by grind⟩
  have oney : nrm 0 1 0 1 := ⟨by grind, by grind⟩
  have onez : nrm 0 0 1 1 := ⟨by grind, by grind⟩
  have cx := nrm_dot nV' one
  have cy := nrm_dot nV' oney
  have cz := nrm_dot nV' onez
  have ib : ∀ w : Int, -(1083791009 * 1) ≤ (w : Rat) → (w : Rat) ≤ 1083791009 * 1 → -1342177280 ≤ w ∧ w ≤ 1342177280 := fun w h1 h2 => by
    constructor
    · refine ile ?_
      have z0 : ((-1342177280 : Int) : Rat) = -1342177280 := rfl
      rw [z0]; grind
    · refine ile ?_
      have z0 : ((1342177280 : Int) : Rat) = 1342177280 := rfl
      rw [z0]; grind
  have lo : 1073741815 * 1073741815 ≤ (V0 : Rat) * V0 + (V1 : Rat) * V1 + (V2 : Rat) * V2 := by
    refine Classical.byContradiction fun hc => ?_
    have k := nrm_add (show nrm (V0 : Rat) V1 V2 1073741815 from ⟨by grind, by grind⟩) (nrm_neg hn)
    have g2 : ∀ x X : Rat, x + -(x - 1073741824 * X) = 1073741824 * X := fun x X => by grind
    rw [g2, g2, g2] at k
    have k2 := k.2
    have : 1073741824 * X * (1073741824 * X) + 1073741824 * Y * (1073741824 * Y) + 1073741824 * Z * (1073741824 * Z) = 1152921504606846976 * (X * X + Y * Y + Z * Z) := by grind
    rw [this, hl] at k2
    grind
  have hne : ¬ (V0 = 0 ∧ V1 = 0 ∧ V2 = 0) := by
    rintro ⟨rfl, rfl, rfl⟩
    have z : ((0 : Int) : Rat) = 0 := rfl
    rw [z] at lo
    grind
  obtain ⟨e, f, hq, hvv, ⟨e1, e2⟩, ⟨n1, n2⟩, u1⟩ := posn_dir V0 V1 V2 (ib _ (by grind) (by grind)) (ib _ (by grind) (by grind)) (ib _ (by grind) (by grind)) hne 1083791009 (by grind) nV'.2
  have hid := comp_id e f (V0 : Rat) V1 V2
  have sE := mulab (a := cE f V0 V1) (b := cE f V0 V1) (A := 5546/100) (B := 5546/100) (by grind) (by grind) (by grind) (by grind)
  have sN := mulab (a := cN e f V0 V1 V2) (b := cN e f V0 V1 V2) (A := 5646/100) (B := 5646/100) (by grind) (by grind) (by grind) (by grind)
  have cb := comp_b e f nV'
  have hκ : 1073741700 ≤ cU e f V0 V1 V2 := by
    refine Classical.byContradiction fun hn => ?_
    have := Rat.mul_nonneg (a := 1073741700 - cU e f V0 V1 V2) (b := 1073741700 + cU e f V0 V1 V2) (by grind) (by grind)
    grind
  refine ⟨e, f, cU e f V0 V1 V2, hq, hvv, ⟨hκ, by grind⟩, ?_⟩
  have hu := unit_U e f
  have hU : CC e * CC f * (V0 : Rat) + CC e * SS f * (V1 : Rat) + SS e * (V2 : Rat) = cU e f V0 V1 V2 := by unfold cU cH; grind
  generalize cU e f V0 V1 V2 = L at *
  generalize CC e * CC f = U0 at *
  generalize CC e * SS f = U1 at *
  generalize SS e = U2 at *
  have nT : nrm (L * U0 - (V0 : Rat)) (L * U1 - (V1 : Rat)) (L * U2 - (V2 : Rat)) (7920/100) := ⟨by grind, by
    have : (L * U0 - (V0 : Rat)) * (L * U0 - (V0 : Rat)) + (L * U1 - (V1 : Rat)) * (L * U1 - (V1 : Rat)) + (L * U2 - (V2 : Rat)) * (L * U2 - (V2 : Rat)) = (V0 : Rat) * V0 + (V1 : Rat) * V1 + (V2 : Rat) * V2 - 2 * L * (U0 * (V0 : Rat) + U1 * (V1 : Rat) + U2 * (V2 : Rat)) + L * L * (U0 * U0 + U1 * U1 + U2 * U2) := by grind
    rw [this, hU, hu]; grind⟩
  have fin := nrm_add nT hn
  have g3 : ∀ l w x : Rat, l - w + (w - x) = l - x := fun l w x => by grind
  rw [g3, g3, g3] at fin
  exact nrm_mono fin (by grind)
/-- the local components of a position whose exact direction is that of a point, as the program computes them. -/
theorem loc_of {a b e f : Int} {L u v : Rat} (hv : vd a b = true) (hw : vd e f = true) (L0 : 1073741700 ≤ L) (L1 : L ≤ 1083900000)
    (hn : nrm (L * (CC e * CC f) - 1073741824 * wX a b u v) (L * (CC e * SS f) - 1073741824 * wY a b u v) (L * SS e - 1073741824 * wZ a b u v) 88) :
    (-(99) ≤ L / 1073741824 * (lx b e f : Rat) - 1073741824 * u ∧ L / 1073741824 * (lx b e f : Rat) - 1073741824 * u ≤ 99) ∧
    (-(103) ≤ L / 1073741824 * (ly a b e f : Rat) - 1073741824 * v ∧ L / 1073741824 * (ly a b e f : Rat) - 1073741824 * v ≤ 103) ∧
    (-(103) ≤ L / 1073741824 * (lz a b e f : Rat) - 1073741824 ∧ L / 1073741824 * (lz a b e f : Rat) - 1073741824 ≤ 103) := by
  obtain ⟨l1, l2, l3⟩ := loc_near hv hw
  have pu := of_nrm hw
  have k0 : 9999/10000 ≤ L / 1073741824 := by grind
  have k1 : L / 1073741824 ≤ 10095/10000 := by grind
  have m := nrm_sc pu (k := L / 1073741824) (κ := 10095/10000) (by grind) k1
  have s := nrm_add m hn
  have g : ∀ q w x : Rat, L / 1073741824 * (q - 1073741824 * w) + (L * w - 1073741824 * x) = L / 1073741824 * q - 1073741824 * x := fun q w x => by grind
  rw [g, g, g] at s
  obtain ⟨c1, c2, c3⟩ := comp_b a b s
  have q1 := comp_sub a b (L / 1073741824 * (rd (cn e * cn f) : Rat)) (L / 1073741824 * (rd (cn e * sn f) : Rat)) (L / 1073741824 * (sn e : Rat)) (wX a b u v) (wY a b u v) (wZ a b u v) 1073741824
  have q2 := comp_mul a b (rd (cn e * cn f) : Rat) (rd (cn e * sn f) : Rat) (sn e : Rat) (L / 1073741824)
  have q3 := w_comp a b u v
  rw [q1.1, q2.1, q3.1] at c1
  rw [q1.2.1, q2.2.1, q3.2.1] at c2
  rw [q1.2.2, q2.2.2, q3.2.2] at c3
  clear q1 q2 q3 s m pu hn g
  generalize cE b (rd (cn e * cn f) : Rat) (rd (cn e * sn f) : Rat) = cE' at *
  generalize cN a b (rd (cn e * cn f) : Rat) (rd (cn e * sn f) : Rat) (sn e : Rat) = cN' at *
  generalize cU a b (rd (cn e * cn f) : Rat) (rd (cn e * sn f) : Rat) (sn e : Rat) = cU' at *
  generalize (lx b e f : Rat) = x at *
  generalize (ly a b e f : Rat) = y at *
  generalize (lz a b e f : Rat) = z at *
  generalize L / 1073741824 = k at *
  have m1 := mulab (a := k) (b := x - cE') (A := 10095/10000) (B := 35/10) (by grind) k1 l1.1 l1.2
  have m2 := mulab (a := k) (b := y - cN') (A := 10095/10000) (B := 73/10) (by grind) k1 l2.1 l2.2
  have m3 := mulab (a := k) (b := z - cU') (A := 10095/10000) (B := 73/10) (by grind) k1 l3.1 l3.2
  refine ⟨⟨by grind, by grind⟩, ⟨by grind, by grind⟩, by grind, by grind⟩
/-- a quotient near a coordinate. -/
theorem quot_near {p z x : Int} {k : Rat} (k0 : 9999/10000 ≤ k) (k1 : k ≤ 10095/10000) (x0 : -2000000 ≤ x) (x1 : x ≤ 2000000) (h1 : -103 ≤ k * (p : Rat) - 1073741824 * ((x : Rat) / 20626481)) (h2 : k * (p : Rat) - 1073741824 * ((x : Rat) / 20626481) ≤ 103)
    (h3 : -103 ≤ k * (z : Rat) - 1073741824) (h4 : k * (z : Rat) - 1073741824 ≤ 103) : 1000000000 ≤ z ∧ -2 ≤ qnear (20626481 * p) z - x ∧ qnear (20626481 * p) z - x ≤ 2 := by
  have z0 : 1060000000 ≤ (z : Rat) := by
    refine Classical.byContradiction fun hn => ?_
    rcases (Rat.le_total : (z : Rat) ≤ 0 ∨ 0 ≤ (z : Rat)) with hz | hz
    · have := Rat.mul_nonneg (a := k) (b := -(z : Rat)) (by grind) (by grind)
      grind
    · have := Rat.mul_nonneg (a := 10095/10000 - k) (b := (z : Rat)) (by grind) hz
      grind
  have z1 : (1060000000 : Int) ≤ z := ile (by rw [show ((1060000000 : Int) : Rat) = 1060000000 from rfl]; exact z0)
  have q := qnear_r (20626481 * p) z (by omega)
  have xa := rle2 x0
  have xb := rle2 x1
  simp only [Rat.intCast_mul, Rat.intCast_neg, Rat.intCast_ofNat] at q xa xb
  have m := mulab (a := (x : Rat)) (b := k * (z : Rat) - 1073741824) (A := 2000000) (B := 103) xa xb h3 h4
  -- k (κ p - x z) is small
  have s1 : -(103 * 20626481 + 2000000 * 103) ≤ k * (20626481 * (p : Rat) - (x : Rat) * (z : Rat)) ∧ k * (20626481 * (p : Rat) - (x : Rat) * (z : Rat)) ≤ 103 * 20626481 + 2000000 * 103 := by
    have e : k * (20626481 * (p : Rat) - (x : Rat) * (z : Rat)) = 20626481 * (k * (p : Rat) - 1073741824 * ((x : Rat) / 20626481)) - (x : Rat) * (k * (z : Rat) - 1073741824) := by grind
    rw [e]
    generalize (x : Rat) * (k * (z : Rat) - 1073741824) = T at *
    generalize k * (p : Rat) - 1073741824 * ((x : Rat) / 20626481) = U at *
    constructor <;> grind
  have s2 : -2340000000 ≤ 20626481 * (p : Rat) - (x : Rat) * (z : Rat) ∧ 20626481 * (p : Rat) - (x : Rat) * (z : Rat) ≤ 2340000000 := by
    generalize 20626481 * (p : Rat) - (x : Rat) * (z : Rat) = D at *
    constructor
    · refine Classical.byContradiction fun hn => ?_
      have := Rat.mul_pos (a := k) (b := -2340000000 - D) (by grind) (by grind)
      grind
    · refine Classical.byContradiction fun hn => ?_
      have := Rat.mul_pos (a := k) (b := D - 2340000000) (by grind) (by grind)
      grind
  refine ⟨by omega, ?_, ?_⟩
  · refine Classical.byContradiction fun hn => ?_
    have h : qnear (20626481 * p) z + 3 ≤ x := by omega
    have hr := rle2 h
    simp only [Rat.intCast_add, Rat.intCast_ofNat] at hr
    generalize (qnear (20626481 * p) z : Rat) = Q at *
    have := Rat.mul_nonneg (a := (x : Rat) - (Q + 3)) (b := (z : Rat)) (by grind) (by grind)
    grind
  · refine Classical.byContradiction fun hn => ?_
    have h : x + 3 ≤ qnear (20626481 * p) z := by omega
    have hr := rle2 h
    simp only [Rat.intCast_add, Rat.intCast_ofNat] at hr
    generalize (qnear (20626481 * p) z : Rat) = Q at *
    have := Rat.mul_nonneg (a := Q - ((x : Rat) + 3)) (b := (z : Rat)) (by grind) (by grind)
    grind
theorem back_plain {a b x y : Int} (ho : org a b = true) (hp : pvd x y = true) : ∃ e f, frv a b x y = (e, f, 0) ∧ vd e f = true ∧
    ((∃ u v, tov a b e f = (u, v, 0) ∧ (-2 ≤ u - x ∧ u - x ≤ 2) ∧ -2 ≤ v - y ∧ v - y ≤ 2) ∨ (tov a b e f = (0, 0, 2) ∧ (1999998 ≤ x ∨ 1999998 ≤ -x ∨ 1999998 ≤ y ∨ 1999998 ≤ -y))) := by
  obtain ⟨e, f, L, hf, hw, ⟨L0, L1⟩, hn⟩ := from_near ho hp
  have hv := org_vd ho
  have ⟨p1, p2⟩ := pvd_of hp
  obtain ⟨l1, l2, l3⟩ := loc_of hv hw L0 L1 hn
  have qx := quot_near (p := lx b e f) (z := lz a b e f) (x := x) (k := L / 1073741824) (by grind) (by grind) p1.1 p1.2 (by grind) (by grind) l3.1 l3.2
  have qy := quot_near (p := ly a b e f) (z := lz a b e f) (x := y) (k := L / 1073741824) (by grind) (by grind) p2.1 p2.2 l2.1 l2.2 l3.1 l3.2
  refine ⟨e, f, hf, hw, ?_⟩
  unfold tov
  rw [if_pos (show (org a b && vd e f) = true by rw [ho, hw]; rfl), if_neg (by omega)]
  cases h : pvd (qnear (20626481 * lx b e f) (lz a b e f)) (qnear (20626481 * ly a b e f) (lz a b e f))
  · refine .inr ⟨if_neg (by decide), ?_⟩
    simp only [pvd, Bool.and_eq_false_iff, decide_eq_false_iff_not] at h
    omega
  · exact .inl ⟨_, _, if_pos rfl, qx.2, qy.2⟩
/-- the whole components of a point's position. -/
theorem forth_lz {a b c d : Int} (hv : vd a b = true) (hw : vd c d = true) (hz : 0 < lz a b c d) (hp : pvd (qnear (20626481 * lx b c d) (lz a b c d)) (qnear (20626481 * ly a b c d) (lz a b c d)) = true) :
    1060000000 ≤ (lz a b c d : Rat) ∧ (lz a b c d : Rat) ≤ 1073741850 := by
  obtain ⟨l1, l2, l3⟩ := loc_near hv hw
  have ⟨p1, p2⟩ := pvd_of hp
  have qx := qnear_r (20626481 * lx b c d) (lz a b c d) (by omega)
  have qy := qnear_r (20626481 * ly a b c d) (lz a b c d) (by omega)
  have x0 := rle2 p1.1
  have x1 := rle2 p1.2
  have y0 := rle2 p2.1
  have y1 := rle2 p2.2
  have z0 := rle2 (show 1 ≤ lz a b c d by omega)
  have nb := rle2 (norm_b c d).1
  have cb := comp_b a b (q_nrm hw)
  have hid := comp_id a b (rd (cn c * cn d) : Rat) (rd (cn c * sn d) : Rat) (sn c : Rat)
  simp only [Rat.intCast_mul, Rat.intCast_add, Rat.intCast_sub, Rat.intCast_neg, Rat.intCast_ofNat] at qx qy x0 x1 y0 y1 nb
  have zo : ((1 : Int) : Rat) = 1 := rfl
  rw [zo] at z0
  generalize cE b (rd (cn c * cn d) : Rat) (rd (cn c * sn d) : Rat) = E at *
  generalize cN a b (rd (cn c * cn d) : Rat) (rd (cn c * sn d) : Rat) (sn c : Rat) = N at *
  generalize cU a b (rd (cn c * cn d) : Rat) (rd (cn c * sn d) : Rat) (sn c : Rat) = U at *
  generalize (qnear (20626481 * lx b c d) (lz a b c d) : Rat) = X at *
  generalize (qnear (20626481 * ly a b c d) (lz a b c d) : Rat) = Y at *
  generalize (lx b c d : Rat) = x at *
  generalize (ly a b c d : Rat) = y at *
  generalize (lz a b c d : Rat) = z at *
  refine ⟨?_, by grind⟩
  refine Classical.byContradiction fun hn => ?_
  have m1 := Rat.mul_nonneg (a := 2000000 - X) (b := z) (by grind) (by grind)
  have m2 := Rat.mul_nonneg (a := X + 2000000) (b := z) (by grind) (by grind)
  have m3 := Rat.mul_nonneg (a := 2000000 - Y) (b := z) (by grind) (by grind)
  have m4 := Rat.mul_nonneg (a := Y + 2000000) (b := z) (by grind) (by grind)
  have a1 : -102800000 ≤ E ∧ E ≤ 102800000 := by constructor <;> grind
  have a2 : -102800000 ≤ N ∧ N ≤ 102800000 := by constructor <;> grind
  have a3 : -1060000010 ≤ U ∧ U ≤ 1060000010 := by constructor <;> grind
  have k1 := mulab a1.1 a1.2 a1.1 a1.2
  have k2 := mulab a2.1 a2.2 a2.1 a2.2
  have k3 := mulab a3.1 a3.2 a3.1 a3.2
  generalize E * E = EE at *
  generalize N * N = NN at *
  generalize U * U = UU at *
  clear m1 m2 m3 m4 a1 a2 a3 qx qy l1 l2 l3 cb
  grind
theorem forth_plain {a b c d : Int} (ho : org a b = true) (hw : vd c d = true) (hz : 0 < lz a b c d) (hp : pvd (qnear (20626481 * lx b c d) (lz a b c d)) (qnear (20626481 * ly a b c d) (lz a b c d)) = true) :
    ∃ e f, frv a b (qnear (20626481 * lx b c d) (lz a b c d)) (qnear (20626481 * ly a b c d) (lz a b c d)) = (e, f, 0) ∧ dstv c d e f = (dv c d e f, 0) ∧ dv c d e f ≤ 6 := by
  have hv := org_vd ho
  obtain ⟨z0, z1⟩ := forth_lz hv hw hz hp
  obtain ⟨e, f, L, hf, hvv, ⟨L0, L1⟩, hn⟩ := from_near ho hp
  obtain ⟨l1, l2, l3⟩ := loc_near hv hw
  have qx := qnear_r (20626481 * lx b c d) (lz a b c d) (by omega)
  have qy := qnear_r (20626481 * ly a b c d) (lz a b c d) (by omega)
  have qn := q_nrm hw
  have on := of_nrm hvv
  refine ⟨e, f, hf, ?_⟩
  have s7 : ((sn (6 + 1) : Int) : Rat) = 365 := by
    have : sn (6 + 1) = 365 := by decide +kernel
    rw [this]; rfl
  simp only [Rat.intCast_mul, Rat.intCast_ofNat] at qx qy
  have hkz : 1073741824 / (lz a b c d : Rat) * (lz a b c d : Rat) = 1073741824 := Rat.div_mul_cancel (by grind)
  -- the vector of the position, scaled, against that of the point
  have q1 := comp_sub a b (1073741824 / (lz a b c d : Rat) * (rd (cn c * cn d) : Rat)) (1073741824 / (lz a b c d : Rat) * (rd (cn c * sn d) : Rat)) (1073741824 / (lz a b c d : Rat) * (sn c : Rat)) (wX a b ((qnear (20626481 * lx b c d) (lz a b c d) : Rat) / 20626481) ((qnear (20626481 * ly a b c d) (lz a b c d) : Rat) / 20626481)) (wY a b ((qnear (20626481 * lx b c d) (lz a b c d) : Rat) / 20626481) ((qnear (20626481 * ly a b c d) (lz a b c d) : Rat) / 20626481)) (wZ a b ((qnear (20626481 * lx b c d) (lz a b c d) : Rat) / 20626481) ((qnear (20626481 * ly a b c d) (lz a b c d) : Rat) / 20626481)) 1073741824
  have q2 := comp_mul a b (rd (cn c * cn d) : Rat) (rd (cn c * sn d) : Rat) (sn c : Rat) (1073741824 / (lz a b c d : Rat))
  have q3 := w_comp a b ((qnear (20626481 * lx b c d) (lz a b c d) : Rat) / 20626481) ((qnear (20626481 * ly a b c d) (lz a b c d) : Rat) / 20626481)
  rw [q2.1, q3.1] at q1
  rw [q2.2.1, q3.2.1, q2.2.2, q3.2.2] at q1
  obtain ⟨r1, r2, r3⟩ := q1
  clear q2 q3
  generalize wX a b ((qnear (20626481 * lx b c d) (lz a b c d) : Rat) / 20626481) ((qnear (20626481 * ly a b c d) (lz a b c d) : Rat) / 20626481) = W0 at *
  generalize wY a b ((qnear (20626481 * lx b c d) (lz a b c d) : Rat) / 20626481) ((qnear (20626481 * ly a b c d) (lz a b c d) : Rat) / 20626481) = W1 at *
  generalize wZ a b ((qnear (20626481 * lx b c d) (lz a b c d) : Rat) / 20626481) ((qnear (20626481 * ly a b c d) (lz a b c d) : Rat) / 20626481) = W2 at *
  generalize (qnear (20626481 * lx b c d) (lz a b c d) : Rat) = X at *
  generalize (qnear (20626481 * ly a b c d) (lz a b c d) : Rat) = Y at *
  have k0 : 99999/100000 ≤ 1073741824 / (lz a b c d : Rat) := by
    refine Classical.byContradiction fun hc => ?_
    have := Rat.mul_nonneg (a := 99999/100000 - 1073741824 / (lz a b c d : Rat)) (b := (lz a b c d : Rat)) (by grind) (by grind)
    grind
  have k1 : 1073741824 / (lz a b c d : Rat) ≤ 102/100 := by
    refine Classical.byContradiction fun hc => ?_
    have := Rat.mul_nonneg (a := 1073741824 / (lz a b c d : Rat) - 102/100) (b := (lz a b c d : Rat)) (by grind) (by grind)
    grind
  generalize 1073741824 / (lz a b c d : Rat) = k at *
  have near : ∀ p P : Rat, -((lz a b c d : Rat) / 2) ≤ P * (lz a b c d : Rat) - 20626481 * p → P * (lz a b c d : Rat) - 20626481 * p ≤ (lz a b c d : Rat) / 2 → -(2604/100) ≤ k * p - 1073741824 * (P / 20626481) ∧ k * p - 1073741824 * (P / 20626481) ≤ 2604/100 := fun p P h1 h2 => by
    have e1 := Rat.mul_nonneg (a := k) (b := P * (lz a b c d : Rat) - 20626481 * p + (lz a b c d : Rat) / 2) (by grind) (by grind)
    have e2 := Rat.mul_nonneg (a := k) (b := (lz a b c d : Rat) / 2 - (P * (lz a b c d : Rat) - 20626481 * p)) (by grind) (by grind)
    have g : k * (P * (lz a b c d : Rat)) = P * 1073741824 := by rw [← hkz]; grind
    generalize (lz a b c d : Rat) = z at *
    constructor <;> grind
  have nx := near _ _ qx.1 qx.2
  have ny := near _ _ qy.1 qy.2
  have m1 := mulab (a := k) (b := (lx b c d : Rat) - cE b (rd (cn c * cn d) : Rat) (rd (cn c * sn d) : Rat)) (A := 102/100) (B := 35/10) (by grind) k1 l1.1 l1.2
  have m2 := mulab (a := k) (b := (ly a b c d : Rat) - cN a b (rd (cn c * cn d) : Rat) (rd (cn c * sn d) : Rat) (sn c : Rat)) (A := 102/100) (B := 73/10) (by grind) k1 l2.1 l2.2
  have m3 := mulab (a := k) (b := (lz a b c d : Rat) - cU a b (rd (cn c * cn d) : Rat) (rd (cn c * sn d) : Rat) (sn c : Rat)) (A := 102/100) (B := 73/10) (by grind) k1 l3.1 l3.2
  have nQ : nrm (k * (rd (cn c * cn d) : Rat) - 1073741824 * W0) (k * (rd (cn c * sn d) : Rat) - 1073741824 * W1) (k * (sn c : Rat) - 1073741824 * W2) 46 :=
    comp_nrm a b (A := 2962/100) (B := 3350/100) (C := 75/10) (by grind) (by rw [r1]; grind) (by rw [r1]; grind) (by rw [r2]; grind) (by rw [r2]; grind) (by rw [r3]; grind) (by rw [r3]; grind) (by grind)
  have s := nrm_add nQ (nrm_neg hn)
  have g : ∀ q w u : Rat, k * q - 1073741824 * w + -(L * u - 1073741824 * w) = k * q - L * u := fun q w u => by grind
  rw [g, g, g] at s
  have hk : k ≠ 0 := by grind
  have ik : 1 / k * k = 1 := Rat.div_mul_cancel hk
  have i0 : 0 ≤ 1 / k := by
    refine Classical.byContradiction fun hc => ?_
    have := Rat.mul_pos (a := -(1 / k)) (b := k) (by grind) (by grind)
    grind
  have i1 : 1 / k ≤ 10001/10000 := by
    refine Classical.byContradiction fun hc => ?_
    have := Rat.mul_pos (a := 1 / k - 10001/10000) (b := k) (by grind) (by grind)
    grind
  have t := nrm_smul s (k := 1 / k) i0
  have g2 : ∀ q u : Rat, 1 / k * (k * q - L * u) = q - 1 / k * L * u := fun q u => by grind
  rw [g2, g2, g2] at t
  have t' := nrm_mono t (t := 135) (by grind)
  have hu := unit_U e f
  have lb := nrm_add qn (nrm_neg t')
  have g3 : ∀ q u : Rat, q + -(q - 1 / k * L * u) = 1 / k * L * u := fun q u => by grind
  rw [g3, g3, g3] at lb
  have l0 : 0 ≤ 1 / k * L := Rat.mul_nonneg i0 (by grind)
  have lle : 1 / k * L ≤ 1073741831 + 135 := by
    refine le_of_sq lb.1 ?_
    have := lb.2
    have e2 : 1 / k * L * (CC e * CC f) * (1 / k * L * (CC e * CC f)) + 1 / k * L * (CC e * SS f) * (1 / k * L * (CC e * SS f)) + 1 / k * L * SS e * (1 / k * L * SS e) = 1 / k * L * (1 / k * L) * (CC e * CC f * (CC e * CC f) + CC e * SS f * (CC e * SS f) + SS e * SS e) := by grind
    rw [e2, hu] at this
    grind
  have fin := dist_zero c d e f 6 hw hvv (by omega) (by omega) _ _ _ (1 / k * L) 135 (67/10) hu l0 (by grind) t' on (by grind) (by grind) (by rw [s7]; grind)
  exact ⟨fin.1, fin.2.2⟩
theorem SS_nn {n : Int} (h0 : 0 ≤ n) (h1 : n ≤ 64799998) : 0 ≤ SS n := by
  by_cases h : 2 ≤ n
  · have := SS_pos h h1; grind
  · rcases (show n = 0 ∨ n = 1 by omega) with rfl | rfl
    · have : SS 0 = 0 := by decide +kernel
      grind
    · rw [SS_one]; have := su_k; grind
theorem CS_succ (n : Nat) : CC ((n + 1 : Nat) : Int) = CC (n : Int) * cu - SS (n : Int) * su ∧ SS ((n + 1 : Nat) : Int) = SS (n : Int) * cu + CC (n : Int) * su := by
  have := CS_add (n : Int) 1
  rw [CC_one, SS_one] at this
  have e : ((n + 1 : Nat) : Int) = (n : Int) + 1 := by omega
  rw [e]; exact this
theorem ncast (n : Nat) : ((n + 1 : Nat) : Rat) = (n : Rat) + 1 := by rw [Rat.natCast_add]; rfl
theorem tan_lo (n : Nat) (hn : n ≤ 64799997) : (n : Rat) * su * CC (n : Int) ≤ cu * SS (n : Int) := by
  induction n with
  | zero =>
    have h1 : SS ((0 : Nat) : Int) = 0 := by decide +kernel
    have h2 : ((0 : Nat) : Rat) = 0 := rfl
    rw [h1, h2]; grind
  | succ n ih =>
    have h := ih (by omega)
    obtain ⟨e1, e2⟩ := CS_succ n
    have sp := SS_nn (n := (n : Int)) (by omega) (by omega)
    have c := cu_lo
    have s := su_k
    have nn : (0 : Rat) ≤ (n : Rat) := Rat.natCast_nonneg
    rw [e1, e2, ncast]
    generalize CC (n : Int) = C at *
    generalize SS (n : Int) = S at *
    generalize (n : Rat) = m at *
    have k1 := Rat.mul_nonneg (a := cu) (b := cu * S - m * su * C) (by grind) (by grind)
    have k2 := Rat.mul_nonneg (a := (m + 1) * su * su) (b := S) (Rat.mul_nonneg (Rat.mul_nonneg (by grind) (by grind)) (by grind)) sp
    grind
theorem sin_hi (n : Nat) (hn : n ≤ 64799997) : SS (n : Int) ≤ (n : Rat) * su := by
  induction n with
  | zero =>
    have h1 : SS ((0 : Nat) : Int) = 0 := by decide +kernel
    have h2 : ((0 : Nat) : Rat) = 0 := rfl
    rw [h1, h2]; grind
  | succ n ih =>
    have h := ih (by omega)
    obtain ⟨e1, e2⟩ := CS_succ n
    have sp := SS_nn (n := (n : Int)) (by omega) (by omega)
    have cb := (CS_1 (n : Int)).1
    have c := cu_lo
    have s := su_k
    rw [e2, ncast]
    generalize CC (n : Int) = C at *
    generalize SS (n : Int) = S at *
    have k1 := Rat.mul_nonneg (a := S) (b := 1 - cu) sp (by grind)
    have k2 := Rat.mul_nonneg (a := 1 - C) (b := su) (by grind) (by grind)
    grind
theorem su_kap : 1 ≤ 20626481 * su ∧ 20626481 * su ≤ 1 + 1/10000000 := by
  have a := uu_b
  have b := su_b
  constructor <;> grind
theorem kap_tan {s : Int} (h0 : 0 ≤ s) (h1 : s ≤ 32400000) : (s : Rat) * CC s ≤ 20626481 * SS s := by
  obtain ⟨n, rfl⟩ : ∃ n : Nat, s = n := ⟨s.toNat, by omega⟩
  have t := tan_lo n (by omega)
  have sp := SS_nn h0 (by omega)
  have k := su_kap
  have c := cu_lo
  have e : ((n : Int) : Rat) = (n : Rat) := rfl
  rw [e]
  have nn : (0 : Rat) ≤ (n : Rat) := Rat.natCast_nonneg
  have hc : (0 : Rat) ≤ CC (n : Int) ∨ CC (n : Int) ≤ 0 := Rat.le_total
  generalize CC (n : Int) = C at *
  generalize SS (n : Int) = S at *
  generalize (n : Rat) = m at *
  rcases hc with hc | hc
  · have k1 := Rat.mul_nonneg (a := 20626481 * su - 1) (b := m * C) (by grind) (Rat.mul_nonneg nn hc)
    have k2 := Rat.mul_nonneg (a := 1 - cu) (b := S) (by grind) sp
    grind
  · have := Rat.mul_nonneg (a := m) (b := -C) nn (by grind)
    grind
theorem kap_sin {s : Int} (h0 : 0 ≤ s) (h1 : s ≤ 32400000) : 20626481 * SS s ≤ (s : Rat) * (1 + 1/10000000) := by
  obtain ⟨n, rfl⟩ : ∃ n : Nat, s = n := ⟨s.toNat, by omega⟩
  have t := sin_hi n (by omega)
  have k := su_kap
  have e : ((n : Int) : Rat) = (n : Rat) := rfl
  rw [e]
  have nn : (0 : Rat) ≤ (n : Rat) := Rat.natCast_nonneg
  generalize SS (n : Int) = S at *
  generalize (n : Rat) = m at *
  have k1 := Rat.mul_nonneg (a := m) (b := 1 + 1/10000000 - 20626481 * su) nn (by grind)
  grind
theorem north_comp (a b s : Int) : cE b (xX a b (0 % 129600000) s) (xY a b (0 % 129600000) s) = 0 ∧ cN a b (xX a b (0 % 129600000) s) (xY a b (0 % 129600000) s) (xZ a b (0 % 129600000) s) = SS s ∧ cU a b (xX a b (0 % 129600000) s) (xY a b (0 % 129600000) s) (xZ a b (0 % 129600000) s) = CC s := by
  have h1 : CC 0 = 1 := by decide +kernel
  have h2 : SS 0 = 0 := by decide +kernel
  rw [show (0 : Int) % 129600000 = 0 from rfl]
  have ha := CS_unit a
  have hb := CS_unit b
  have eX : xX a b 0 s = CC b * (CC a * CC s - SS a * SS s) := by unfold xX dX; rw [h1, h2]; grind
  have eY : xY a b 0 s = SS b * (CC a * CC s - SS a * SS s) := by unfold xY dY; rw [h1, h2]; grind
  have eZ : xZ a b 0 s = SS a * CC s + CC a * SS s := by unfold xZ dZ; rw [h1, h2]; grind
  have eH : cH b (xX a b 0 s) (xY a b 0 s) = CC a * CC s - SS a * SS s := by
    unfold cH
    rw [eX, eY]
    have : CC b * (CC a * CC s - SS a * SS s) * CC b + SS b * (CC a * CC s - SS a * SS s) * SS b = (CC a * CC s - SS a * SS s) * (CC b * CC b + SS b * SS b) := by grind
    rw [this, hb]; grind
  refine ⟨?_, ?_, ?_⟩
  · unfold cE; rw [eX, eY]; grind
  · unfold cN; rw [eH, eZ]
    have : (SS a * CC s + CC a * SS s) * CC a - (CC a * CC s - SS a * SS s) * SS a = SS s * (CC a * CC a + SS a * SS a) := by grind
    rw [this, ha]; grind
  · unfold cU; rw [eH, eZ]
    have : (CC a * CC s - SS a * SS s) * CC a + (SS a * CC s + CC a * SS s) * SS a = CC s * (CC a * CC a + SS a * SS a) := by grind
    rw [this, ha]; grind
theorem meridian_plain {a b s : Int} (ho : org a b = true) (s0 : 0 ≤ s) (s1 : s ≤ 1000000) : ∃ c d u v, alv a b 0 s = (c, d, 0) ∧ tov a b c d = (u, v, 0) ∧ (-2 ≤ u ∧ u ≤ 2) ∧ s - 8 ≤ v ∧ v ≤ s * 49 / 48 + 8 := by
  have hv := org_vd ho
  obtain ⟨c, d, hal, hw, hn⟩ := near_along a b 0 s hv ⟨s0, by omega⟩
  obtain ⟨l1, l2, l3⟩ := loc_near hv hw
  obtain ⟨c1, c2, c3⟩ := comp_b a b hn
  have q1 := comp_sub a b (rd (cn c * cn d) : Rat) (rd (cn c * sn d) : Rat) (sn c : Rat) (xX a b (0 % 129600000) s) (xY a b (0 % 129600000) s) (xZ a b (0 % 129600000) s) 1073741824
  have q3 := north_comp a b s
  rw [q1.1, q3.1] at c1
  rw [q1.2.1, q3.2.1] at c2
  rw [q1.2.2, q3.2.2] at c3
  clear q1 q3 hn
  -- the sine and the cosine of the distance
  obtain ⟨_, n1, n2⟩ := nr_all (a := s) (by omega) (by omega)
  have cm := rle2 (cn_mono (a := s) (b := 1000000) s0 s1 (by omega))
  have cv : (1072400000 : Int) ≤ cn 1000000 := by decide +kernel
  have cv' := rle2 cv
  have ce : ((1072400000 : Int) : Rat) = 1072400000 := rfl
  rw [ce] at cv'
  have kt := kap_tan s0 (by omega)
  have ks := kap_sin s0 (by omega)
  have sp := SS_nn s0 (by omega)
  have cc := (CS_1 s).1
  have hs0 := rle2 s0
  have hs1 := rle2 s1
  have z0 : ((0 : Int) : Rat) = 0 := rfl
  have z1 : ((1000000 : Int) : Rat) = 1000000 := rfl
  rw [z0] at hs0
  rw [z1] at hs1
  have zlo : 1072399000 ≤ (lz a b c d : Rat) ∧ (lz a b c d : Rat) ≤ 1073742000 := by constructor <;> grind
  have zi : (1072399000 : Int) ≤ lz a b c d := ile (by rw [show ((1072399000 : Int) : Rat) = 1072399000 from rfl]; exact zlo.1)
  have qx := qnear_r (20626481 * lx b c d) (lz a b c d) (by omega)
  have qy := qnear_r (20626481 * ly a b c d) (lz a b c d) (by omega)
  simp only [Rat.intCast_mul, Rat.intCast_ofNat] at qx qy
  have hx : -122 ≤ (lx b c d : Rat) ∧ (lx b c d : Rat) ≤ 122 := by constructor <;> grind
  have hy : -125 ≤ (ly a b c d : Rat) - 1073741824 * SS s ∧ (ly a b c d : Rat) - 1073741824 * SS s ≤ 125 := by constructor <;> grind
  have hz : -125 ≤ (lz a b c d : Rat) - 1073741824 * CC s ∧ (lz a b c d : Rat) - 1073741824 * CC s ≤ 125 := by constructor <;> grind
  clear c1 c2 c3 l1 l2 l3 n1 n2 cm cv'
  have ub : -2 ≤ qnear (20626481 * lx b c d) (lz a b c d) ∧ qnear (20626481 * lx b c d) (lz a b c d) ≤ 2 := by
    constructor
    · refine Classical.byContradiction fun hc => ?_
      have h := rle2 (show qnear (20626481 * lx b c d) (lz a b c d) ≤ -3 by omega)
      have e : ((-3 : Int) : Rat) = -3 := rfl
      rw [e] at h
      generalize (qnear (20626481 * lx b c d) (lz a b c d) : Rat) = X at *
      have := Rat.mul_nonneg (a := -3 - X) (b := (lz a b c d : Rat)) (by grind) (by grind)
      grind
    · refine Classical.byContradiction fun hc => ?_
      have h := rle2 (show 3 ≤ qnear (20626481 * lx b c d) (lz a b c d) by omega)
      have e : ((3 : Int) : Rat) = 3 := rfl
      rw [e] at h
      generalize (qnear (20626481 * lx b c d) (lz a b c d) : Rat) = X at *
      have := Rat.mul_nonneg (a := X - 3) (b := (lz a b c d : Rat)) (by grind) (by grind)
      grind
  have vb : s - 8 ≤ qnear (20626481 * ly a b c d) (lz a b c d) ∧ qnear (20626481 * ly a b c d) (lz a b c d) ≤ s * 49 / 48 + 8 := by
    constructor
    · refine Classical.byContradiction fun hc => ?_
      have h := rle2 (show qnear (20626481 * ly a b c d) (lz a b c d) + 9 ≤ s by omega)
      have e : ((9 : Int) : Rat) = 9 := rfl
      rw [Rat.intCast_add, e] at h
      generalize (qnear (20626481 * ly a b c d) (lz a b c d) : Rat) = Y at *
      have m1 := Rat.mul_nonneg (a := (s : Rat) - 9 - Y) (b := (lz a b c d : Rat)) (by grind) (by grind)
      have m2 := mulab (a := (s : Rat) - 17/2) (b := (lz a b c d : Rat) - 1073741824 * CC s) (A := 1000009) (B := 125) (by grind) (by grind) hz.1 hz.2
      have m3 : (s : Rat) * (1073741824 * CC s) ≤ 1073741824 * (20626481 * SS s) := by grind
      have m4 : ((s : Rat) - 17/2) * ((lz a b c d : Rat) - 1073741824 * CC s) = (s : Rat) * (lz a b c d : Rat) - 17/2 * (lz a b c d : Rat) - (s : Rat) * (1073741824 * CC s) + 17/2 * (1073741824 * CC s) := by grind
      rw [m4] at m2
      have m5 : ((s : Rat) - 9 - Y) * (lz a b c d : Rat) = (s : Rat) * (lz a b c d : Rat) - 9 * (lz a b c d : Rat) - Y * (lz a b c d : Rat) := by grind
      rw [m5] at m1
      clear kt ks m4 m5
      generalize (s : Rat) * (lz a b c d : Rat) = T1 at *
      generalize Y * (lz a b c d : Rat) = T2 at *
      generalize (s : Rat) * (1073741824 * CC s) = T3 at *
      generalize (lz a b c d : Rat) = z at *
      generalize CC s = C at *
      generalize SS s = S at *
      grind
    · refine Classical.byContradiction fun hc => ?_
      have h := rle2 (show 49 * s + 385 ≤ 48 * qnear (20626481 * ly a b c d) (lz a b c d) by omega)
      simp only [Rat.intCast_mul, Rat.intCast_add, Rat.intCast_ofNat] at h
      generalize (qnear (20626481 * ly a b c d) (lz a b c d) : Rat) = Y at *
      have m1 := Rat.mul_nonneg (a := 48 * Y - 49 * (s : Rat) - 385) (b := (lz a b c d : Rat)) (by grind) (by grind)
      have m2 := Rat.mul_nonneg (a := 49 * (s : Rat) + 361) (b := (lz a b c d : Rat) - 1072399000) (by grind) (by grind)
      have m4 : (48 * Y - 49 * (s : Rat) - 385) * (lz a b c d : Rat) = 48 * (Y * (lz a b c d : Rat)) - 49 * ((s : Rat) * (lz a b c d : Rat)) - 385 * (lz a b c d : Rat) := by grind
      have m5 : (49 * (s : Rat) + 361) * ((lz a b c d : Rat) - 1072399000) = 49 * ((s : Rat) * (lz a b c d : Rat)) + 361 * (lz a b c d : Rat) - 1072399000 * 49 * (s : Rat) - 1072399000 * 361 := by grind
      rw [m4] at m1
      rw [m5] at m2
      clear kt m4 m5
      generalize (s : Rat) * (lz a b c d : Rat) = T1 at *
      generalize Y * (lz a b c d : Rat) = T2 at *
      generalize (lz a b c d : Rat) = z at *
      generalize CC s = C at *
      generalize SS s = S at *
      generalize (s : Rat) = t at *
      grind
  refine ⟨c, d, qnear (20626481 * lx b c d) (lz a b c d), qnear (20626481 * ly a b c d) (lz a b c d), hal, ?_, ub, vb⟩
  unfold tov
  rw [if_pos (show (org a b && vd c d) = true by rw [ho, hw]; rfl), if_neg (by omega)]
  refine if_pos ?_
  simp only [pvd, Bool.and_eq_true, decide_eq_true_eq]
  omega
end Go.Proofs.Ytmlacekgmdlfjaa
