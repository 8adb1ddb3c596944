/- Distances in the plane against distances on the sphere (plain). -/
import Derived.Test.YtmlacekgmdlfjaaPlnG
import Derived.Test.YtmlacekgmdlfjaaRotZ
namespace Go.Proofs.Ytmlacekgmdlfjaa
open Go.RowKit Go.Joins Fdk
set_option linter.unusedVariables false
theorem w_dot (a b : Int) (u v p q : Rat) : wX a b u v * wX a b p q + wY a b u v * wY a b p q + wZ a b u v * wZ a b p q = 1 + u * p + v * q := by
  have e0 := w_len a b u v
  have e1 := w_len a b p q
  have e2 := w_len a b ((u + p) / 2) ((v + q) / 2)
  have f0 : wX a b ((u + p) / 2) ((v + q) / 2) = (wX a b u v + wX a b p q) / 2 := by unfold wX; grind
  have f1 : wY a b ((u + p) / 2) ((v + q) / 2) = (wY a b u v + wY a b p q) / 2 := by unfold wY; grind
  have f2 : wZ a b ((u + p) / 2) ((v + q) / 2) = (wZ a b u v + wZ a b p q) / 2 := by unfold wZ; grind
  rw [f0, f1, f2] at e2
  grind
/-- the vector of a position, lengthened, lies near the exact vector of its point. -/
theorem from_scaled {a b e f : Int} {L u v : Rat} (hw : vd e f = true) (L0 : 1073741700 ≤ L) (L1 : L ≤ 1083900000)
    (hn : nrm (L * (CC e * CC f) - 1073741824 * wX a b u v) (L * (CC e * SS f) - 1073741824 * wY a b u v) (L * SS e - 1073741824 * wZ a b u v) 88) :
    nrm (L / 1073741824 * (rd (cn e * cn f) : Rat) - 1073741824 * wX a b u v) (L / 1073741824 * (rd (cn e * sn f) : Rat) - 1073741824 * wY a b u v) (L / 1073741824 * (sn e : Rat) - 1073741824 * wZ a b u v) 95 := by
  have m := nrm_sc (of_nrm hw) (k := L / 1073741824) (κ := 10095/10000) (by grind) (by grind)
  have s := nrm_add m hn
  have g : ∀ q w x : Rat, L / 1073741824 * (q - 1073741824 * w) + (L * w - 1073741824 * x) = L / 1073741824 * q - 1073741824 * x := fun q w x => by grind
  rw [g, g, g] at s
  exact nrm_mono s (by grind)
/-- what the program computes of two positions, against the exact vectors X and Y. -/
theorem two_core {V0 V1 V2 Z0 Z1 Z2 : Int} {X0 X1 X2 Y0 Y1 Y2 k l : Rat} (k0 : 999999/1000000 ≤ k) (k1 : k ≤ 10095/10000) (l0 : 999999/1000000 ≤ l) (l1 : l ≤ 10095/10000)
    (hX : nrm X0 X1 X2 (100936/100000)) (hY : nrm Y0 Y1 Y2 (100936/100000))
    (nv : nrm (k * (V0 : Rat) - 1073741824 * X0) (k * (V1 : Rat) - 1073741824 * X1) (k * (V2 : Rat) - 1073741824 * X2) 95) (nz : nrm (l * (Z0 : Rat) - 1073741824 * Y0) (l * (Z1 : Rat) - 1073741824 * Y1) (l * (Z2 : Rat) - 1073741824 * Y2) 95)
    (m : Int) (m0 : 0 ≤ m) (h1 : m * m ≤ csum (V1 * Z2 - V2 * Z1) (V2 * Z0 - V0 * Z2) (V0 * Z1 - V1 * Z0)) (h2 : csum (V1 * Z2 - V2 * Z1) (V2 * Z0 - V0 * Z2) (V0 * Z1 - V1 * Z0) < (m + 1) * (m + 1)) :
    (-194 ≤ k * l * (rd (V0 * Z0 + V1 * Z1 + V2 * Z2) : Rat) - 1073741824 * (X0 * Y0 + X1 * Y1 + X2 * Y2) ∧ k * l * (rd (V0 * Z0 + V1 * Z1 + V2 * Z2) : Rat) - 1073741824 * (X0 * Y0 + X1 * Y1 + X2 * Y2) ≤ 194) ∧
    (∀ r, nrm (X1 * Y2 - X2 * Y1) (X2 * Y0 - X0 * Y2) (X0 * Y1 - X1 * Y0) r → k * l * (m : Rat) ≤ 1073741824 * r + 198) ∧
    nrm (1073741824 * (X1 * Y2 - X2 * Y1)) (1073741824 * (X2 * Y0 - X0 * Y2)) (1073741824 * (X0 * Y1 - X1 * Y0)) (k * l * (m : Rat) + 198) := by
  have kl0 : 999998/1000000 ≤ k * l := by
    have := Rat.mul_nonneg (a := k - 999999/1000000) (b := l - 999999/1000000) (by grind) (by grind)
    grind
  have kl1 : k * l ≤ 10191/10000 := by
    have := Rat.mul_nonneg (a := 10095/10000 - k) (b := l) (by grind) (by grind)
    grind
  -- the scalar product
  have d1 := nrm_dot hX nz
  have d2 := nrm_dot nv hY
  have d3 := nrm_dot nv nz
  have r := rd_r (V0 * Z0 + V1 * Z1 + V2 * Z2)
  simp only [Rat.intCast_mul, Rat.intCast_add] at r
  have c1 := nrm_cross hX nz
  have c2 := nrm_cross nv hY
  have c3 := nrm_sc (nrm_cross nv nz) (k := 1/1073741824) (κ := 1/1073741824) (by grind) (by grind)
  have c4 := nrm_mono (nrm_add (nrm_add c1 c2) c3) (t := 1919/10) (by grind)
  have hkl : k * l ≠ 0 := by grind
  have ikl : 1 / (k * l) * (k * l) = 1 := Rat.div_mul_cancel hkl
  have i0 : 0 ≤ 1 / (k * l) := by
    refine Classical.byContradiction fun hc => ?_
    have := Rat.mul_pos (a := -(1 / (k * l))) (b := k * l) (by grind) (by grind)
    grind
  have i1 : 1 / (k * l) ≤ 100001/100000 := by
    refine Classical.byContradiction fun hc => ?_
    have := Rat.mul_pos (a := 1 / (k * l) - 100001/100000) (b := k * l) (by grind) (by grind)
    grind
  have c5 := nrm_mono (nrm_smul c4 i0) (t := 192) (by
    have := Rat.mul_nonneg (a := 100001/100000 - 1 / (k * l)) (b := 1919/10) (by grind) (by grind)
    grind)
  have g : ∀ x y p q v w z t : Rat, x * (l * t - 1073741824 * q) - y * (l * z - 1073741824 * p) + ((k * v - 1073741824 * x) * q - (k * w - 1073741824 * y) * p) + 1/1073741824 * ((k * v - 1073741824 * x) * (l * t - 1073741824 * q) - (k * w - 1073741824 * y) * (l * z - 1073741824 * p)) = k * l * ((v * t - w * z) / 1073741824) - 1073741824 * (x * q - y * p) := fun x y p q v w z t => by grind
  rw [g, g, g] at c5
  have g2 : ∀ c x : Rat, 1 / (k * l) * (k * l * c - x) = c - 1 / (k * l) * x := fun c x => by
    have : 1 / (k * l) * (k * l * c - x) = 1 / (k * l) * (k * l) * c - 1 / (k * l) * x := by grind
    rw [this, ikl]; grind
  rw [g2, g2, g2] at c5
  have ct := csum_two m m0 h1 h2 _ _ _ (e := 192) (by
    have e : ∀ x y z t : Int, ((x * y - z * t : Int) : Rat) = (x : Rat) * y - (z : Rat) * t := fun x y z t => by simp only [Rat.intCast_sub, Rat.intCast_mul]
    rw [e, e, e]; exact c5)
  obtain ⟨A, B⟩ := ct
  have M0 : (0 : Rat) ≤ m := by have := rle2 m0; simpa using this
  refine ⟨?_, ?_, ?_⟩
  · have eD : k * l * (((V0 : Rat) * Z0 + (V1 : Rat) * Z1 + (V2 : Rat) * Z2) / 1073741824) - 1073741824 * (X0 * Y0 + X1 * Y1 + X2 * Y2) = (X0 * (l * (Z0 : Rat) - 1073741824 * Y0) + X1 * (l * (Z1 : Rat) - 1073741824 * Y1) + X2 * (l * (Z2 : Rat) - 1073741824 * Y2)) + ((k * (V0 : Rat) - 1073741824 * X0) * Y0 + (k * (V1 : Rat) - 1073741824 * X1) * Y1 + (k * (V2 : Rat) - 1073741824 * X2) * Y2) + ((k * (V0 : Rat) - 1073741824 * X0) * (l * (Z0 : Rat) - 1073741824 * Y0) + (k * (V1 : Rat) - 1073741824 * X1) * (l * (Z1 : Rat) - 1073741824 * Y1) + (k * (V2 : Rat) - 1073741824 * X2) * (l * (Z2 : Rat) - 1073741824 * Y2)) / 1073741824 := by grind
    have m1 := mulab (a := k * l) (b := (rd (V0 * Z0 + V1 * Z1 + V2 * Z2) : Rat) - ((V0 : Rat) * Z0 + (V1 : Rat) * Z1 + (V2 : Rat) * Z2) / 1073741824) (A := 10191/10000) (B := 1/2) (by grind) kl1 r.1 r.2
    have e2 : k * l * ((rd (V0 * Z0 + V1 * Z1 + V2 * Z2) : Rat) - ((V0 : Rat) * Z0 + (V1 : Rat) * Z1 + (V2 : Rat) * Z2) / 1073741824) = k * l * (rd (V0 * Z0 + V1 * Z1 + V2 * Z2) : Rat) - k * l * (((V0 : Rat) * Z0 + (V1 : Rat) * Z1 + (V2 : Rat) * Z2) / 1073741824) := by grind
    rw [e2] at m1
    generalize X0 * (l * (Z0 : Rat) - 1073741824 * Y0) + X1 * (l * (Z1 : Rat) - 1073741824 * Y1) + X2 * (l * (Z2 : Rat) - 1073741824 * Y2) = T1 at *
    generalize (k * (V0 : Rat) - 1073741824 * X0) * Y0 + (k * (V1 : Rat) - 1073741824 * X1) * Y1 + (k * (V2 : Rat) - 1073741824 * X2) * Y2 = T2 at *
    generalize (k * (V0 : Rat) - 1073741824 * X0) * (l * (Z0 : Rat) - 1073741824 * Y0) + (k * (V1 : Rat) - 1073741824 * X1) * (l * (Z1 : Rat) - 1073741824 * Y1) + (k * (V2 : Rat) - 1073741824 * X2) * (l * (Z2 : Rat) - 1073741824 * Y2) = T3 at *
    generalize k * l * (((V0 : Rat) * Z0 + (V1 : Rat) * Z1 + (V2 : Rat) * Z2) / 1073741824) = T4 at *
    generalize k * l * (rd (V0 * Z0 + V1 * Z1 + V2 * Z2) : Rat) = T5 at *
    generalize 1073741824 * (X0 * Y0 + X1 * Y1 + X2 * Y2) = T6 at *
    clear g g2 e2 c1 c2 c3 c4 c5 A B r nv nz hX hY ikl h1 h2
    constructor <;> grind
  · intro r hr
    have a := A _ (nrm_smul (nrm_smul hr (k := 1073741824) (by grind)) i0)
    have t := Rat.mul_nonneg (a := k * l) (b := 1 / (k * l) * (1073741824 * r) + 192 + 9/10 - (m : Rat)) (by grind) (by grind)
    have e : k * l * (1 / (k * l) * (1073741824 * r) + 192 + 9/10 - (m : Rat)) = 1 / (k * l) * (k * l) * (1073741824 * r) + (192 + 9/10) * (k * l) - k * l * (m : Rat) := by grind
    rw [e, ikl] at t
    generalize k * l * (m : Rat) = T at *
    grind
  · have b := nrm_smul B (k := k * l) (by grind)
    have e : ∀ x : Rat, k * l * (1 / (k * l) * x) = x := fun x => by
      have : k * l * (1 / (k * l) * x) = 1 / (k * l) * (k * l) * x := by grind
      rw [this, ikl]; grind
    rw [e, e, e] at b
    refine nrm_mono b ?_
    have e3 : k * l * ((m : Rat) + 19/10 + 192) = k * l * (m : Rat) + (19/10 + 192) * (k * l) := by grind
    rw [e3]
    grind
/-- the cross product of the vectors of two points of the plane, against their distance from above. -/
theorem cross_le (u v p q d z : Rat) (d0 : 0 ≤ d) (h : (u - p) * (u - p) + (v - q) * (v - q) ≤ d * d) (hz : 4 * z = d * d) (z1 : z ≤ 1) (hd : 0 ≤ 1 + u * p + v * q) :
    ((1 + u * u + v * v) * (1 + p * p + q * q) - (1 + u * p + v * q) * (1 + u * p + v * q)) * ((1 - z) * (1 - z)) ≤ d * (1 + u * p + v * q) * (d * (1 + u * p + v * q)) := by
  have lg : 4 * ((u * q - v * p) * (u * q - v * p)) + ((u + p) * (u - p) + (v + q) * (v - q)) * ((u + p) * (u - p) + (v + q) * (v - q)) = ((u + p) * (u + p) + (v + q) * (v + q)) * ((u - p) * (u - p) + (v - q) * (v - q)) := by grind
  have sq := rsq ((u + p) * (u - p) + (v + q) * (v - q))
  have eN : (1 + u * u + v * v) * (1 + p * p + q * q) - (1 + u * p + v * q) * (1 + u * p + v * q) = ((u - p) * (u - p) + (v - q) * (v - q)) + (u * q - v * p) * (u * q - v * p) := by grind
  have eD : 1 + u * p + v * q = 1 + ((u + p) * (u + p) + (v + q) * (v + q)) / 4 - ((u - p) * (u - p) + (v - q) * (v - q)) / 4 := by grind
  have M0 : 0 ≤ (u + p) * (u + p) + (v + q) * (v + q) := by have := rsq (u + p); have := rsq (v + q); grind
  have D0 : 0 ≤ (u - p) * (u - p) + (v - q) * (v - q) := by have := rsq (u - p); have := rsq (v - q); grind
  rw [eN]
  rw [eD] at hd ⊢
  generalize (u * q - v * p) * (u * q - v * p) = CC' at *
  generalize ((u + p) * (u - p) + (v + q) * (v - q)) * ((u + p) * (u - p) + (v + q) * (v - q)) = SQ at *
  generalize (u + p) * (u + p) + (v + q) * (v + q) = M at *
  generalize (u - p) * (u - p) + (v - q) * (v - q) = D at *
  clear eN eD
  -- N at most A D
  have k1 : D + CC' ≤ (1 + M / 4) * D := by grind
  have zz := rsq (1 - z)
  have k2 := Rat.mul_nonneg (a := (1 + M / 4) * D - (D + CC')) (b := (1 - z) * (1 - z)) (by grind) zz
  -- A D (1 - z)^2 at most D (A - D/4)^2
  have k3 : (1 - z) * (1 - z) ≤ (1 - D / 4) * (1 - D / 4) := by
    have := Rat.mul_nonneg (a := z - D / 4) (b := 2 - z - D / 4) (by grind) (by grind)
    grind
  have AD : 0 ≤ (1 + M / 4) * D := Rat.mul_nonneg (by grind) D0
  have k4 := Rat.mul_nonneg AD (b := (1 - D / 4) * (1 - D / 4) - (1 - z) * (1 - z)) (by grind)
  have k5 : (1 + M / 4) * ((1 - D / 4) * (1 - D / 4)) ≤ (1 + M / 4 - D / 4) * (1 + M / 4 - D / 4) := by
    have := Rat.mul_nonneg (a := M / 4) (b := 1 + M / 4 - D / 4 * (D / 4)) (by grind) (by
      have := Rat.mul_nonneg (a := D / 4) (b := 1 - D / 4) (by grind) (by grind)
      grind)
    grind
  have k6 := Rat.mul_nonneg D0 (b := (1 + M / 4 - D / 4) * (1 + M / 4 - D / 4) - (1 + M / 4) * ((1 - D / 4) * (1 - D / 4))) (by grind)
  have k7 := Rat.mul_nonneg (rsq (1 + M / 4 - D / 4)) (b := d * d - D) (by grind)
  have e1 : d * (1 + M / 4 - D / 4) * (d * (1 + M / 4 - D / 4)) = d * d * ((1 + M / 4 - D / 4) * (1 + M / 4 - D / 4)) := by grind
  rw [e1]
  generalize (1 + M / 4 - D / 4) * (1 + M / 4 - D / 4) = E at *
  generalize (1 - D / 4) * (1 - D / 4) = F at *
  generalize (1 - z) * (1 - z) = G at *
  have e2 : ((1 + M / 4) * D - (D + CC')) * G = (1 + M / 4) * D * G - (D + CC') * G := by grind
  have e3 : (1 + M / 4) * D * (F - G) = (1 + M / 4) * D * F - (1 + M / 4) * D * G := by grind
  have e4 : D * (E - (1 + M / 4) * F) = D * E - (1 + M / 4) * D * F := by grind
  have e5 : E * (d * d - D) = d * d * E - D * E := by grind
  rw [e2] at k2
  rw [e3] at k4
  rw [e4] at k6
  rw [e5] at k7
  grind
theorem cross_ge (u v p q : Rat) : (u - p) * (u - p) + (v - q) * (v - q) ≤ (1 + u * u + v * v) * (1 + p * p + q * q) - (1 + u * p + v * q) * (1 + u * p + v * q) := by
  have := rsq (u * q - v * p)
  grind
theorem at2_oct {m x : Int} (m0 : 0 ≤ m) (h : m ≤ x) : 0 ≤ at2 m x ∧ at2 m x ≤ 16200000 := by
  have im : iabs m = m := by unfold iabs; rw [if_neg (by omega)]
  have ix : iabs x = x := by unfold iabs; rw [if_neg (by omega)]
  unfold at2 atq
  rw [if_pos ⟨by omega, m0⟩, im, ix, if_neg (by omega)]
  exact ata_b _ _
/-- the direction of the two numbers. -/
theorem scale_dir {m x t : Int} {κ dot : Rat} (k0 : 999998/1000000 ≤ κ) (k1 : κ ≤ 10191/10000) (m0 : 0 ≤ m) (ht : t = at2 m x) (d0 : 981/1000 ≤ dot) (d1 : dot ≤ 10189/10000)
    (hx : -194 ≤ κ * (x : Rat) - 1073741824 * dot ∧ κ * (x : Rat) - 1073741824 * dot ≤ 194) (hm : κ * (m : Rat) ≤ 1073741824 * (28/100) + 198) :
    (0 ≤ t ∧ t ≤ 16200000) ∧ (-592/10 ≤ κ * (m : Rat) * CC t - κ * (x : Rat) * SS t ∧ κ * (m : Rat) * CC t - κ * (x : Rat) * SS t ≤ 592/10) ∧ SS t ≤ 29/100 := by
  have M0 : (0 : Rat) ≤ m := by have := rle2 m0; simpa using this
  have x0 : 1000000000 ≤ (x : Rat) := by
    refine Classical.byContradiction fun hn => ?_
    rcases (Rat.le_total : (x : Rat) ≤ 0 ∨ 0 ≤ (x : Rat)) with hz | hz
    · have := Rat.mul_nonneg (a := κ) (b := -(x : Rat)) (by grind) (by grind)
      grind
    · have := Rat.mul_nonneg (a := 10191/10000 - κ) (b := (x : Rat)) (by grind) hz
      grind
  have x1 : (x : Rat) ≤ 1095000000 := by
    refine Classical.byContradiction fun hn => ?_
    have := Rat.mul_nonneg (a := κ - 999998/1000000) (b := (x : Rat)) (by grind) (by grind)
    grind
  have m1 : (m : Rat) ≤ 301000000 := by
    refine Classical.byContradiction fun hn => ?_
    have := Rat.mul_nonneg (a := κ - 999998/1000000) (b := (m : Rat)) (by grind) M0
    grind
  have hmx : m ≤ x := ile (by grind)
  have ho := at2_oct m0 hmx
  rw [← ht] at ho
  have s1 := mulab (a := (x : Rat)) (b := (x : Rat)) (A := 1095000000) (B := 1095000000) (by grind) x1 (by grind) x1
  have s2 := mulab (a := (m : Rat)) (b := (m : Rat)) (A := 301000000) (B := 301000000) (by grind) m1 (by grind) m1
  obtain ⟨⟨q1, q2⟩, _⟩ := dir_u m x 1135700000 (by grind) (by grind)
  rw [← ht] at q1 q2
  have q3 := mulab (a := κ) (b := (m : Rat) * CC t - (x : Rat) * SS t) (A := 10191/10000) (B := 5809/100) (by grind) k1 (by grind) (by grind)
  have e : κ * ((m : Rat) * CC t - (x : Rat) * SS t) = κ * (m : Rat) * CC t - κ * (x : Rat) * SS t := by grind
  rw [e] at q3
  have ⟨o1, o2⟩ := oct_lo ho.1 ho.2
  have cb := (CS_1 t).1
  refine ⟨ho, ⟨by grind, by grind⟩, ?_⟩
  refine Classical.byContradiction fun hn => ?_
  have a1 := Rat.mul_nonneg (a := κ * (x : Rat) - 1053000000) (b := SS t) (by grind) o2
  have a2 := Rat.mul_nonneg (a := 300648000 - κ * (m : Rat)) (b := CC t) (by grind) (by grind)
  generalize κ * (m : Rat) = X at *
  generalize κ * (x : Rat) = Y at *
  clear s1 s2 q1 q2 e
  have e1 : (Y - 1053000000) * SS t = Y * SS t - 1053000000 * SS t := by grind
  have e2 : (300648000 - X) * CC t = 300648000 * CC t - X * CC t := by grind
  rw [e1] at a1
  rw [e2] at a2
  grind
theorem sn_10_11 : 519 ≤ 1073741824 * SS 10 ∧ 519 ≤ 1073741824 * SS 11 := by
  have e10 : (521 : Int) ≤ sn 10 := by decide +kernel
  have e11 : (521 : Int) ≤ sn 11 := by decide +kernel
  have a := rle2 e10
  have b := rle2 e11
  have z : ((521 : Int) : Rat) = 521 := rfl
  rw [z] at a b
  have n1 := (nr_all (a := 10) (by omega) (by omega)).1
  have n2 := (nr_all (a := 11) (by omega) (by omega)).1
  constructor <;> grind
/-- the distance in the plane is at least that on the sphere, but for 12. -/
theorem scale_lo {m x t h : Int} {κ dot D z : Rat} (k0 : 999998/1000000 ≤ κ) (k1 : κ ≤ 10191/10000) (m0 : 0 ≤ m) (ht : t = at2 m x) (d0 : 981/1000 ≤ dot) (d1 : dot ≤ 10189/10000)
    (hx : -194 ≤ κ * (x : Rat) - 1073741824 * dot ∧ κ * (x : Rat) - 1073741824 * dot ≤ 194) (hm : κ * (m : Rat) ≤ 1073741824 * (28/100) + 198)
    (h0 : 0 ≤ h) (hD : D = ((h : Rat) + 1) / 20626481) (hz : 4 * z = D * D) (z1 : z ≤ 19/1000) (hm2 : (1 - z) * (κ * (m : Rat)) ≤ 1073741824 * (D * dot) + 198 * (1 - z)) : t ≤ h + 12 := by
  refine Classical.byContradiction fun hc => ?_
  obtain ⟨⟨t0, t1⟩, ⟨q1, q2⟩, sb⟩ := scale_dir k0 k1 m0 ht d0 d1 hx hm
  have ⟨ct0, st0⟩ := oct_lo t0 t1
  have ct1 := (CS_1 t).1
  have H0 : (0 : Rat) ≤ h := by have := rle2 h0; simpa using this
  -- half the angle
  obtain ⟨r, hr⟩ : ∃ r, r = (t - 10) / 2 := ⟨_, rfl⟩
  have r0 : 0 ≤ r := by omega
  have ⟨cr0, sr0⟩ := oct_lo r0 (by omega)
  have ⟨cq0, sq0⟩ := oct_lo (c := r + r) (by omega) (by omega)
  have kt := kap_tan r0 (by omega)
  have ad := CS_add r r
  have su := CS_sub t (r + r)
  have hrh : (h : Rat) + 1 ≤ 2 * (r : Rat) := by
    have := rle2 (show h + 1 ≤ 2 * r by omega)
    simp only [Rat.intCast_add, Rat.intCast_mul, Rat.intCast_ofNat] at this
    exact this
  have h10 : 519 ≤ 1073741824 * SS (t - (r + r)) := by
    rcases (show t - (r + r) = 10 ∨ t - (r + r) = 11 by omega) with e | e
    · rw [e]; exact sn_10_11.1
    · rw [e]; exact sn_10_11.2
  -- D CC q at most (1 - z) SS q
  have TC : D / 2 * CC r ≤ SS r := by
    have a := Rat.mul_nonneg (a := 2 * (r : Rat) - ((h : Rat) + 1)) (b := CC r) (by grind) (by grind)
    have e : 20626481 * (D / 2 * CC r) = ((h : Rat) + 1) * CC r / 2 := by rw [hD]; grind
    grind
  have key : D * CC (r + r) ≤ (1 - z) * SS (r + r) := by
    rw [ad.1, ad.2]
    have a := Rat.mul_nonneg (a := SS r - D / 2 * CC r) (b := CC r + D / 2 * SS r) (by grind) (by
      have := Rat.mul_nonneg (a := D / 2) (b := SS r) (by rw [hD]; grind) sr0
      grind)
    have e : 2 * ((SS r - D / 2 * CC r) * (CC r + D / 2 * SS r)) = (1 - z) * (SS r * CC r + CC r * SS r) - D * (CC r * CC r - SS r * SS r) := by
      have : z = D * D / 4 := by grind
      rw [this]; grind
    grind
  have es := su.2
  rw [es] at h10
  -- the inequality of the direction, times (1 - z) CC q
  have b1 := Rat.mul_nonneg (a := 1073741824 * (D * dot) + 198 * (1 - z) - (1 - z) * (κ * (m : Rat))) (b := CC t) (by grind) (by grind)
  have b2 := Rat.mul_nonneg (a := κ * (x : Rat) - 1073741824 * dot + 194) (b := SS t) (by grind) st0
  have b3 := Rat.mul_nonneg (a := 592/10 + κ * (m : Rat) * CC t - κ * (x : Rat) * SS t) (b := 1 - z) (by grind) (by grind)
  have b4 : 1073741824 * dot * ((1 - z) * SS t - D * CC t) ≤ 452 := by
    have c1 := Rat.mul_nonneg (a := 1 - z) (b := (κ * (x : Rat) - 1073741824 * dot + 194) * SS t) (by grind) b2
    have c2 := Rat.mul_nonneg (a := 198 * (1 - CC t)) (b := 1 - z) (by grind) (by grind)
    have c3 := Rat.mul_nonneg (a := 194 * (1 - SS t)) (b := 1 - z) (by grind) (by grind)
    have z0 : 0 ≤ z := by have := rsq D; grind
    generalize κ * (m : Rat) = X at *
    generalize κ * (x : Rat) = Y at *
    clear q1 q2 hx hm hm2 key TC es h10 ad su kt hD hz
    have e1 : (1073741824 * (D * dot) + 198 * (1 - z) - (1 - z) * X) * CC t = 1073741824 * (dot * (D * CC t)) + 198 * ((1 - z) * CC t) - (1 - z) * (X * CC t) := by grind
    have e2 : (1 - z) * ((Y - 1073741824 * dot + 194) * SS t) = (1 - z) * (Y * SS t) - 1073741824 * (dot * ((1 - z) * SS t)) + 194 * ((1 - z) * SS t) := by grind
    have e3 : (592/10 + X * CC t - Y * SS t) * (1 - z) = 592/10 * (1 - z) + (1 - z) * (X * CC t) - (1 - z) * (Y * SS t) := by grind
    have e4 : 1073741824 * dot * ((1 - z) * SS t - D * CC t) = 1073741824 * (dot * ((1 - z) * SS t)) - 1073741824 * (dot * (D * CC t)) := by grind
    have e5 : 198 * (1 - CC t) * (1 - z) = 198 * (1 - z) - 198 * ((1 - z) * CC t) := by grind
    have e6 : 194 * (1 - SS t) * (1 - z) = 194 * (1 - z) - 194 * ((1 - z) * SS t) := by grind
    rw [e1] at b1
    rw [e2] at c1
    rw [e3] at b3
    rw [e4]
    rw [e5] at c2
    rw [e6] at c3
    generalize dot * ((1 - z) * SS t) = T1 at *
    generalize dot * (D * CC t) = T2 at *
    generalize (1 - z) * (X * CC t) = T3 at *
    generalize (1 - z) * (Y * SS t) = T4 at *
    generalize (1 - z) * CC t = T5 at *
    generalize (1 - z) * SS t = T6 at *
    grind
  have cq1 := (CS_1 (r + r)).1
  have b5 := Rat.mul_nonneg (a := 452 - 1073741824 * dot * ((1 - z) * SS t - D * CC t)) (b := CC (r + r)) (by grind) (by grind)
  have b6 := Rat.mul_nonneg (a := (1 - z) * SS (r + r) - D * CC (r + r)) (b := CC t) (by grind) (by grind)
  have b7 := Rat.mul_nonneg (a := 1073741824 * dot) (b := ((1 - z) * SS (r + r) - D * CC (r + r)) * CC t) (by grind) b6
  have b8 : 1073741824 * dot * ((1 - z) * (SS t * CC (r + r) - CC t * SS (r + r))) ≤ 452 := by
    have c := Rat.mul_nonneg (a := 452) (b := 1 - CC (r + r)) (by grind) (by grind)
    have e : 1073741824 * dot * ((1 - z) * (SS t * CC (r + r) - CC t * SS (r + r))) = 452 - (452 - 1073741824 * dot * ((1 - z) * SS t - D * CC t)) * CC (r + r) - 1073741824 * dot * (((1 - z) * SS (r + r) - D * CC (r + r)) * CC t) - 452 * (1 - CC (r + r)) := by grind
    rw [e]
    grind
  generalize SS t * CC (r + r) - CC t * SS (r + r) = P at *
  have f1 := Rat.mul_nonneg (a := dot - 981/1000) (b := 1 - z) (by grind) (by grind)
  have f2 := Rat.mul_nonneg (a := dot * (1 - z) - 962/1000) (b := P) (by grind) (by grind)
  have e : 1073741824 * dot * ((1 - z) * P) = 1073741824 * (dot * (1 - z) * P) := by grind
  rw [e] at b8
  grind
theorem poly_hi {y W : Rat} (y0 : 0 ≤ y) (y1 : y ≤ 28/100) (W0 : 0 ≤ W) (hW : 20626481 * W ≤ 97959202/100000000 * (20626481 * y) - 1077/100) (h : 1073741824 * (y * (1 - W * W / 2) - (1018804/1000000 - y * y / 2) * (W * (1 - W * W / 8))) ≤ 448) : False := by
  have hw1 : W ≤ 98/100 * y := by grind
  have u1 : 10412/10000 * (W * W) ≤ y * y := by
    have := Rat.mul_nonneg (a := 98/100 * y - W) (b := 98/100 * y + W) (by grind) (by grind)
    have := rsq y
    grind
  have hW2 : W ≤ 2744/10000 := by grind
  have ww := rsq W
  have uu : W * W ≤ 76/1000 := by
    have := mulab (a := W) (b := W) (A := 2744/10000) (B := 2744/10000) (by grind) hW2 (by grind) hW2
    grind
  have p1 : (1018804/1000000 - y * y / 2) * (W * (1 - W * W / 8)) ≤ 1018804/1000000 * (W * (1 - W * W / 2)) := by
    have a : (1018804/1000000 - y * y / 2) * (1 - W * W / 8) ≤ 1018804/1000000 * (1 - W * W / 2) := by
      have b := Rat.mul_nonneg (a := y * y / 2 - 5206/10000 * (W * W)) (b := 1 - W * W / 8) (by grind) (by grind)
      have c := Rat.mul_nonneg ww (b := 76/1000 - W * W) (by grind)
      generalize y * y / 2 = z at *
      generalize W * W = u at *
      clear u1 hw1 hW h
      grind
    have b := Rat.mul_nonneg W0 (b := 1018804/1000000 * (1 - W * W / 2) - (1018804/1000000 - y * y / 2) * (1 - W * W / 8)) (by grind)
    generalize W * W = u at *
    generalize y * y / 2 = z at *
    grind
  have p2 : (y - 1018804/1000000 * W) * (1 - W * W / 2) ≤ 448/1073741824 := by
    have e : (y - 1018804/1000000 * W) * (1 - W * W / 2) = y * (1 - W * W / 2) - 1018804/1000000 * (W * (1 - W * W / 2)) := by grind
    rw [e]
    generalize (1018804/1000000 - y * y / 2) * (W * (1 - W * W / 8)) = T1 at *
    generalize W * (1 - W * W / 2) = T2 at *
    generalize y * (1 - W * W / 2) = T3 at *
    clear e u1 uu ww
    grind
  have p3 : 1097/100 ≤ 20626481 * (y - 1018804/1000000 * W) := by grind
  have u2 : W * W / 2 ≤ 38/1000 := by grind
  have p4 := Rat.mul_nonneg (a := 20626481 * (y - 1018804/1000000 * W) - 1097/100) (b := 1 - W * W / 2) (by grind) (by grind)
  generalize y - 1018804/1000000 * W = T at *
  generalize W * W / 2 = u at *
  have e : (20626481 * T - 1097/100) * (1 - u) = 20626481 * (T * (1 - u)) - 1097/100 * (1 - u) := by grind
  rw [e] at p4
  generalize T * (1 - u) = V at *
  grind
/-- the distance in the plane is at most 49/48 of that on the sphere, but for 12. -/
theorem scale_hi {m x t h : Int} {κ dot y : Rat} (k0 : 999998/1000000 ≤ κ) (k1 : κ ≤ 10191/10000) (m0 : 0 ≤ m) (ht : t = at2 m x) (d0 : 981/1000 ≤ dot) (d1 : dot ≤ 1018804/1000000 - y * y / 2)
    (hx : -194 ≤ κ * (x : Rat) - 1073741824 * dot ∧ κ * (x : Rat) - 1073741824 * dot ≤ 194) (hm : κ * (m : Rat) ≤ 1073741824 * (28/100) + 198)
    (h0 : 0 ≤ h) (hy : y = (h : Rat) / 20626481) (y1 : y ≤ 28/100) (hm2 : 1073741824 * y ≤ κ * (m : Rat) + 198) : h ≤ t * 49 / 48 + 12 := by
  refine Classical.byContradiction fun hc => ?_
  have H0 : (0 : Rat) ≤ h := by have := rle2 h0; simpa using this
  have y0 : 0 ≤ y := by rw [hy]; grind
  have yy := rsq y
  obtain ⟨⟨t0, t1⟩, ⟨q1, q2⟩, sb⟩ := scale_dir k0 k1 m0 ht d0 (by grind) hx hm
  have ⟨ct0, st0⟩ := oct_lo t0 t1
  have ct1 := (CS_1 t).1
  obtain ⟨r, hr⟩ : ∃ r, r = (t + 1) / 2 := ⟨_, rfl⟩
  have r0 : 0 ≤ r := by omega
  have ⟨cr0, sr0⟩ := oct_lo r0 (by omega)
  have ks := kap_sin r0 (by omega)
  have ad := CS_add r r
  have un := CS_unit r
  have su := CS_sub (r + r) t
  have sd := SS_nn (n := r + r - t) (by omega) (by omega)
  rw [su.2] at sd
  have cqn := nr_all (a := r + r) (by omega) (by omega)
  have cr1 := (CS_1 r).1
  -- the bound of the angle
  have hrt : 49 * (2 * (r : Rat)) ≤ 48 * (h : Rat) - 528 := by
    have := rle2 (show 49 * (2 * r) ≤ 48 * h - 528 by omega)
    simp only [Rat.intCast_sub, Rat.intCast_mul, Rat.intCast_ofNat] at this
    exact this
  -- the inequality of the direction
  have b1 := Rat.mul_nonneg (a := κ * (m : Rat) + 198 - 1073741824 * y) (b := CC t) (by grind) (by grind)
  have b2 := Rat.mul_nonneg (a := 1073741824 * dot + 194 - κ * (x : Rat)) (b := SS t) (by grind) st0
  have b3 := Rat.mul_nonneg (a := 1018804/1000000 - y * y / 2 - dot) (b := SS t) (by grind) st0
  have b4 : 1073741824 * (y * CC t - (1018804/1000000 - y * y / 2) * SS t) ≤ 3135/10 := by
    generalize κ * (m : Rat) = X at *
    generalize κ * (x : Rat) = Y at *
    generalize 1018804/1000000 - y * y / 2 = E at *
    clear ad su sd cqn hx hm hm2 ks un
    grind
  have E0 : 0 ≤ 1018804/1000000 - y * y / 2 := by grind
  generalize hE : 1018804/1000000 - y * y / 2 = E at *
  have cq0 : 7/10 ≤ CC (r + r) ∨ CC (r + r) < 7/10 := by
    rcases (Rat.le_total : 7/10 ≤ CC (r + r) ∨ CC (r + r) ≤ 7/10) with c | c
    · exact .inl c
    · by_cases e : CC (r + r) = 7/10
      · exact .inl (by grind)
      · exact .inr (by grind)
  have W1 : 20626481 * (2 * SS r) ≤ 97959202/100000000 * (20626481 * y) - 1077/100 := by
    have e : 20626481 * y = (h : Rat) := by rw [hy]; grind
    rw [e]
    generalize (h : Rat) = H at *
    generalize (r : Rat) = R at *
    clear b1 b2 b3 b4 q1 q2 hx hm hm2
    grind
  have ss := rsq (SS r)
  have hC : CC (r + r) = 1 - 2 * SS r * (2 * SS r) / 2 := by rw [ad.1]; grind
  have hW2 : 2 * SS r ≤ 28/100 := by grind
  have c0 : 95/100 ≤ CC (r + r) := by
    rw [hC]
    have := mulab (a := 2 * SS r) (b := 2 * SS r) (A := 28/100) (B := 28/100) (by grind) hW2 (by grind) hW2
    grind
  have c1 : CC (r + r) ≤ 1 := (CS_1 (r + r)).1.2
  -- on to the doubled angle
  have b5 := Rat.mul_nonneg (a := 3135/10 - 1073741824 * (y * CC t - E * SS t)) (b := CC (r + r)) (by grind) (by grind)
  have b6 := Rat.mul_nonneg E0 sd
  have b7 : 1073741824 * ((y * CC (r + r) - E * SS (r + r)) * CC t) ≤ 3135/10 := by
    have c := Rat.mul_nonneg (a := 3135/10) (b := 1 - CC (r + r)) (by grind) (by grind)
    have e : 1073741824 * ((y * CC (r + r) - E * SS (r + r)) * CC t) = 3135/10 - (3135/10 - 1073741824 * (y * CC t - E * SS t)) * CC (r + r) - 3135/10 * (1 - CC (r + r)) - 1073741824 * (E * (SS (r + r) * CC t - CC (r + r) * SS t)) := by grind
    rw [e]; grind
  have b8 : 1073741824 * (y * CC (r + r) - E * SS (r + r)) ≤ 448 := by
    generalize y * CC (r + r) - E * SS (r + r) = Z at *
    refine Classical.byContradiction fun hn => ?_
    have := Rat.mul_nonneg (a := 1073741824 * Z - 448) (b := CC t) (by grind) (by grind)
    grind
  -- the sine of the doubled angle
  have hS : SS (r + r) ≤ 2 * SS r * (1 - 2 * SS r * (2 * SS r) / 8) := by
    rw [ad.2]
    have cc : CC r ≤ 1 - SS r * SS r / 2 := by
      refine le_of_sq (by
        have := (CS_1 r).2
        have := mulab this.1 this.2 this.1 this.2
        grind) ?_
      have := rsq (SS r * SS r)
      grind
    have := Rat.mul_nonneg (a := SS r) (b := 1 - SS r * SS r / 2 - CC r) sr0 (by grind)
    grind
  refine poly_hi y0 y1 (W := 2 * SS r) (by grind) W1 ?_
  have b9 := Rat.mul_nonneg E0 (b := 2 * SS r * (1 - 2 * SS r * (2 * SS r) / 8) - SS (r + r)) (by grind)
  rw [← hC, hE]
  generalize 2 * SS r * (1 - 2 * SS r * (2 * SS r) / 8) = G at *
  generalize SS (r + r) = S at *
  generalize CC (r + r) = C at *
  clear b1 b2 b3 b4 b5 b6 b7 hx hm hm2 q1 q2 un ad su hC c0 c1 W1 hW2 ss cqn sd cq0
  grind
theorem hyp_plain {x1 y1 x2 y2 : Int} (p1 : -2000000 ≤ x1 ∧ x1 ≤ 2000000) (p2 : -2000000 ≤ y1 ∧ y1 ≤ 2000000) (q1 : -2000000 ≤ x2 ∧ x2 ≤ 2000000) (q2 : -2000000 ≤ y2 ∧ y2 ≤ 2000000) :
    ∃ h, hy (x1 - x2) (y1 - y2) = (h, 0) ∧ 0 ≤ h ∧ h ≤ 5656854 ∧ h * h ≤ (x1 - x2) * (x1 - x2) + (y1 - y2) * (y1 - y2) ∧ (x1 - x2) * (x1 - x2) + (y1 - y2) * (y1 - y2) < (h + 1) * (h + 1) := by
  have bx : -4000000 ≤ x1 - x2 ∧ x1 - x2 ≤ 4000000 := by omega
  have bY : -4000000 ≤ y1 - y2 ∧ y1 - y2 ≤ 4000000 := by omega
  generalize x1 - x2 = dx at *
  generalize y1 - y2 = dy at *
  have k1 := pb (p := dx) (q := dx) 16000000000000 bx bx (by omega) (by decide)
  have k2 := pb (p := dy) (q := dy) 16000000000000 bY bY (by omega) (by decide)
  have n1 := mul_nnsq dx
  have n2 := mul_nnsq dy
  have hi := isq_ok (n := dx * dx + dy * dy) (by omega) (by omega)
  refine ⟨isq (dx * dx + dy * dy), ?_, hi.1, ?_, hi.2.2.1, hi.2.2.2⟩
  · unfold hy
    rw [if_pos (show fits dy dx = true from decide_eq_true ⟨by omega, by omega⟩)]
  · refine Classical.byContradiction fun hc => ?_
    have := sq_le (a := 5656855) (b := isq (dx * dx + dy * dy)) (by omega) (by omega)
    omega
theorem lag3 (X0 X1 X2 Y0 Y1 Y2 : Rat) : (X1 * Y2 - X2 * Y1) * (X1 * Y2 - X2 * Y1) + (X2 * Y0 - X0 * Y2) * (X2 * Y0 - X0 * Y2) + (X0 * Y1 - X1 * Y0) * (X0 * Y1 - X1 * Y0) = (X0 * X0 + X1 * X1 + X2 * X2) * (Y0 * Y0 + Y1 * Y1 + Y2 * Y2) - (X0 * Y0 + X1 * Y1 + X2 * Y2) * (X0 * Y0 + X1 * Y1 + X2 * Y2) := by grind
theorem quot_r {N E X z : Rat} (z1 : z ≤ 1/2) (E0 : 0 ≤ E) (hN : N * ((1 - z) * (1 - z)) ≤ E * E) (F : ∀ r : Rat, 0 ≤ r → N ≤ r * r → X ≤ 1073741824 * r + 198) : (1 - z) * X ≤ 1073741824 * E + 198 * (1 - z) := by
  have w0 : 0 < 1 - z := by grind
  generalize 1 - z = w at *
  have i : E / w * w = E := Rat.div_mul_cancel (by grind)
  generalize E / w = r at *
  have r0 : 0 ≤ r := by
    refine Classical.byContradiction fun hc => ?_
    have := Rat.mul_pos (a := -r) (b := w) (by grind) w0
    grind
  have k := F r r0 (by
    refine Classical.byContradiction fun hc => ?_
    have a := Rat.mul_pos (a := N - r * r) (b := w * w) (by grind) (Rat.mul_pos w0 w0)
    have c : (N - r * r) * (w * w) = N * (w * w) - r * w * (r * w) := by grind
    rw [c, i] at a
    grind)
  have l := Rat.mul_nonneg (a := w) (b := 1073741824 * r + 198 - X) (by grind) (by grind)
  have l2 : w * (1073741824 * r + 198 - X) = 1073741824 * (r * w) + 198 * w - w * X := by grind
  rw [l2, i] at l
  grind
theorem scale_plain {a b x1 y1 x2 y2 : Int} (ho : org a b = true) (hp : pvd x1 y1 = true) (hq : pvd x2 y2 = true) : ∃ e f g j h, frv a b x1 y1 = (e, f, 0) ∧ frv a b x2 y2 = (g, j, 0) ∧ dstv e f g j = (dv e f g j, 0) ∧ hy (x1 - x2) (y1 - y2) = (h, 0) ∧
    (0 ≤ dv e f g j ∧ dv e f g j ≤ 64800000) ∧ (0 ≤ h ∧ h ≤ 5656854) ∧ dv e f g j ≤ h + 12 ∧ h ≤ dv e f g j * 49 / 48 + 12 := by
  obtain ⟨e, f, L, hf, hw, ⟨L0, L1⟩, hn⟩ := from_near ho hp
  obtain ⟨g, j, K, hg, hw2, ⟨K0, K1⟩, hk⟩ := from_near ho hq
  have ⟨p1, p2⟩ := pvd_of hp
  have ⟨q1, q2⟩ := pvd_of hq
  obtain ⟨h, hh, h0, h1, h2, h3⟩ := hyp_plain p1 p2 q1 q2
  refine ⟨e, f, g, j, h, hf, hg, by unfold dstv; rw [hw, hw2]; rfl, hh, dv_b e f g j, ⟨h0, h1⟩, ?_⟩
  have u1 : Unit3 (rd (cn e * cn f)) (rd (cn e * sn f)) (sn e) := norm_b e f
  have u2 : Unit3 (rd (cn g * cn j)) (rd (cn g * sn j)) (sn g) := norm_b g j
  obtain ⟨_, _, _, _, s0, s1, _⟩ := dist_b u1 u2
  have hi := isq_bd s0 s1
  have ht := dv_at e f g j
  have n1 := from_scaled hw L0 L1 hn
  have n2 := from_scaled hw2 K0 K1 hk
  obtain ⟨a1, a2, a3⟩ := xi_b p1.1 p1.2
  obtain ⟨b1, b2, b3⟩ := xi_b p2.1 p2.2
  obtain ⟨c1, c2, c3⟩ := xi_b q1.1 q1.2
  obtain ⟨d1, d2, d3⟩ := xi_b q2.1 q2.2
  have w1 := w_len a b ((x1 : Rat) / 20626481) ((y1 : Rat) / 20626481)
  have w2 := w_len a b ((x2 : Rat) / 20626481) ((y2 : Rat) / 20626481)
  have wd := w_dot a b ((x1 : Rat) / 20626481) ((y1 : Rat) / 20626481) ((x2 : Rat) / 20626481) ((y2 : Rat) / 20626481)
  -- the distance in the plane
  have r2 := rle2 h2
  have r3 := rle2 (Int.le_of_lt h3)
  have H0 : (0 : Rat) ≤ h := by have := rle2 h0; simpa using this
  have H1 : (h : Rat) ≤ 5656854 := by have := rle2 h1; simpa using this
  simp only [Rat.intCast_mul, Rat.intCast_add, Rat.intCast_sub, Rat.intCast_ofNat] at r2 r3
  have eo : ((1 : Int) : Rat) = 1 := rfl
  have eD : ((x1 : Rat) / 20626481 - (x2 : Rat) / 20626481) * ((x1 : Rat) / 20626481 - (x2 : Rat) / 20626481) + ((y1 : Rat) / 20626481 - (y2 : Rat) / 20626481) * ((y1 : Rat) / 20626481 - (y2 : Rat) / 20626481) = (((x1 : Rat) - x2) * ((x1 : Rat) - x2) + ((y1 : Rat) - y2) * ((y1 : Rat) - y2)) / 425451718443361 := by grind
  have D1 : ((x1 : Rat) / 20626481 - (x2 : Rat) / 20626481) * ((x1 : Rat) / 20626481 - (x2 : Rat) / 20626481) + ((y1 : Rat) / 20626481 - (y2 : Rat) / 20626481) * ((y1 : Rat) / 20626481 - (y2 : Rat) / 20626481) ≤ ((h : Rat) + 1) / 20626481 * (((h : Rat) + 1) / 20626481) := by
    rw [eD]
    have : ((h : Rat) + 1) / 20626481 * (((h : Rat) + 1) / 20626481) = ((h : Rat) + 1) * ((h : Rat) + 1) / 425451718443361 := by grind
    rw [this]; grind
  have D2 : (h : Rat) / 20626481 * ((h : Rat) / 20626481) ≤ ((x1 : Rat) / 20626481 - (x2 : Rat) / 20626481) * ((x1 : Rat) / 20626481 - (x2 : Rat) / 20626481) + ((y1 : Rat) / 20626481 - (y2 : Rat) / 20626481) * ((y1 : Rat) / 20626481 - (y2 : Rat) / 20626481) := by
    rw [eD]
    have : (h : Rat) / 20626481 * ((h : Rat) / 20626481) = (h : Rat) * (h : Rat) / 425451718443361 := by grind
    rw [this]; grind
  clear r2 r3 h2 h3 eD hn hk
  generalize (x1 : Rat) / 20626481 = u at *
  generalize (y1 : Rat) / 20626481 = v at *
  generalize (x2 : Rat) / 20626481 = p at *
  generalize (y2 : Rat) / 20626481 = q at *
  generalize wX a b u v = X0 at *
  generalize wY a b u v = X1 at *
  generalize wZ a b u v = X2 at *
  generalize wX a b p q = Y0 at *
  generalize wY a b p q = Y1 at *
  generalize wZ a b p q = Y2 at *
  have m1 := mulab (a := u) (b := p) (A := 97/1000) (B := 97/1000) a1 a2 c1 c2
  have m2 := mulab (a := v) (b := q) (A := 97/1000) (B := 97/1000) b1 b2 d1 d2
  have dl : 981/1000 ≤ 1 + u * p + v * q ∧ 1 + u * p + v * q ≤ 10189/10000 := by constructor <;> grind
  obtain ⟨F1, F2, F3⟩ := two_core (k := L / 1073741824) (l := K / 1073741824) (by grind) (by grind) (by grind) (by grind) (show nrm X0 X1 X2 (100936/100000) from ⟨by grind, by grind⟩) (show nrm Y0 Y1 Y2 (100936/100000) from ⟨by grind, by grind⟩) n1 n2 _ hi.1 hi.2.1 hi.2.2
  have kk0 : 999998/1000000 ≤ L / 1073741824 * (K / 1073741824) := by
    have := Rat.mul_nonneg (a := L / 1073741824 - 999999/1000000) (b := K / 1073741824 - 999999/1000000) (by grind) (by grind)
    grind
  have kk1 : L / 1073741824 * (K / 1073741824) ≤ 10191/10000 := by
    have := Rat.mul_nonneg (a := 10095/10000 - L / 1073741824) (b := K / 1073741824) (by grind) (by grind)
    grind
  have lg := lag3 X0 X1 X2 Y0 Y1 Y2
  rw [w1, w2, wd] at lg
  rw [wd] at F1
  have F3' := F3.2
  have F30 := F3.1
  have e3 : 1073741824 * (X1 * Y2 - X2 * Y1) * (1073741824 * (X1 * Y2 - X2 * Y1)) + 1073741824 * (X2 * Y0 - X0 * Y2) * (1073741824 * (X2 * Y0 - X0 * Y2)) + 1073741824 * (X0 * Y1 - X1 * Y0) * (1073741824 * (X0 * Y1 - X1 * Y0)) = 1152921504606846976 * ((X1 * Y2 - X2 * Y1) * (X1 * Y2 - X2 * Y1) + (X2 * Y0 - X0 * Y2) * (X2 * Y0 - X0 * Y2) + (X0 * Y1 - X1 * Y0) * (X0 * Y1 - X1 * Y0)) := by grind
  rw [e3, lg] at F3'
  have ge := cross_ge u v p q
  have F2' : ∀ r : Rat, 0 ≤ r → (1 + u * u + v * v) * (1 + p * p + q * q) - (1 + u * p + v * q) * (1 + u * p + v * q) ≤ r * r → L / 1073741824 * (K / 1073741824) * ((isq (csum (rd (cn e * sn f) * sn g - sn e * rd (cn g * sn j)) (sn e * rd (cn g * cn j) - rd (cn e * cn f) * sn g) (rd (cn e * cn f) * rd (cn g * sn j) - rd (cn e * sn f) * rd (cn g * cn j))) : Int) : Rat) ≤ 1073741824 * r + 198 := fun r r0 hr => F2 r ⟨r0, by rw [lg]; exact hr⟩
  have m0 := hi.1
  clear F2 F3 e3 lg w1 w2 wd n1 n2 hi s0 s1 u1 u2
  generalize isq (csum (rd (cn e * sn f) * sn g - sn e * rd (cn g * sn j)) (sn e * rd (cn g * cn j) - rd (cn e * cn f) * sn g) (rd (cn e * cn f) * rd (cn g * sn j) - rd (cn e * sn f) * rd (cn g * cn j))) = m at *
  generalize rd (rd (cn e * cn f) * rd (cn g * cn j) + rd (cn e * sn f) * rd (cn g * sn j) + sn e * sn g) = x at *
  generalize dv e f g j = t at *
  generalize L / 1073741824 * (K / 1073741824) = κ at *
  have hm : κ * (m : Rat) ≤ 1073741824 * (28/100) + 198 := by
    refine F2' (28/100) (by grind) ?_
    have k1 := mulab (a := u - p) (b := u - p) (A := 194/1000) (B := 194/1000) (by grind) (by grind) (by grind) (by grind)
    have k2 := mulab (a := v - q) (b := v - q) (A := 194/1000) (B := 194/1000) (by grind) (by grind) (by grind) (by grind)
    have k3 := mulab (a := u) (b := q) (A := 97/1000) (B := 97/1000) a1 a2 d1 d2
    have k4 := mulab (a := v) (b := p) (A := 97/1000) (B := 97/1000) b1 b2 c1 c2
    have k5 := mulab (a := u * q - v * p) (b := u * q - v * p) (A := 19/1000) (B := 19/1000) (by grind) (by grind) (by grind) (by grind)
    have eN : (1 + u * u + v * v) * (1 + p * p + q * q) - (1 + u * p + v * q) * (1 + u * p + v * q) = (u - p) * (u - p) + (v - q) * (v - q) + (u * q - v * p) * (u * q - v * p) := by grind
    rw [eN]
    generalize (u - p) * (u - p) = T1 at *
    generalize (v - q) * (v - q) = T2 at *
    generalize (u * q - v * p) * (u * q - v * p) = T3 at *
    clear eN F1 F3' ge D1 D2 F2'
    grind
  constructor
  · -- from below
    have hz1 : ((h : Rat) + 1) / 20626481 * (((h : Rat) + 1) / 20626481) ≤ 76/1000 := by
      have := mulab (a := ((h : Rat) + 1) / 20626481) (b := ((h : Rat) + 1) / 20626481) (A := 27426/100000) (B := 27426/100000) (by grind) (by grind) (by grind) (by grind)
      grind
    have cl := cross_le u v p q (((h : Rat) + 1) / 20626481) (((h : Rat) + 1) / 20626481 * (((h : Rat) + 1) / 20626481) / 4) (by grind) D1 (by grind) (by grind) (by grind)
    have z0 := rsq (((h : Rat) + 1) / 20626481)
    refine scale_lo kk0 kk1 m0 ht dl.1 dl.2 F1 hm h0 rfl (z := ((h : Rat) + 1) / 20626481 * (((h : Rat) + 1) / 20626481) / 4) (by grind) (by grind) ?_
    have D0 : 0 ≤ ((h : Rat) + 1) / 20626481 := by grind
    exact quot_r (by grind) (Rat.mul_nonneg D0 (by grind)) cl F2'
  · refine scale_hi kk0 kk1 m0 ht dl.1 (y := (h : Rat) / 20626481) ?_ F1 hm h0 rfl (by grind) ?_
    · generalize (h : Rat) / 20626481 * ((h : Rat) / 20626481) = yy at *
      clear F1 F3' F2' hm ge D1
      grind
    · refine le_of_sq F30 ?_
      have e : 1073741824 * ((h : Rat) / 20626481) * (1073741824 * ((h : Rat) / 20626481)) = 1152921504606846976 * ((h : Rat) / 20626481 * ((h : Rat) / 20626481)) := by grind
      rw [e]
      generalize (h : Rat) / 20626481 * ((h : Rat) / 20626481) = yy at *
      generalize (1 + u * u + v * v) * (1 + p * p + q * q) - (1 + u * p + v * q) * (1 + u * p + v * q) = N at *
      generalize (κ * (m : Rat) + 198) * (κ * (m : Rat) + 198) = R at *
      clear F1 F2' hm
      grind
end Go.Proofs.Ytmlacekgmdlfjaa
