/- Distances obey the triangle inequality within 6 units; they are symmetric, and nothing from a position to itself. -/
import Derived.Test.YtmlacekgmdlfjaaRotY
namespace Go.Proofs.Ytmlacekgmdlfjaa
open Go.RowKit Go.Joins Fdk
set_option linter.unusedVariables false
/-- a whole vector, scaled to the unit length. -/
theorem unit_ex (a b : Int) : ∃ n : Rat, (9999999/10000000 ≤ n ∧ n ≤ 1 + 1/100000000) ∧
    ((rd (cn a * cn b) : Rat) / (1073741824 * n)) * ((rd (cn a * cn b) : Rat) / (1073741824 * n)) + ((rd (cn a * sn b) : Rat) / (1073741824 * n)) * ((rd (cn a * sn b) : Rat) / (1073741824 * n)) + ((sn a : Rat) / (1073741824 * n)) * ((sn a : Rat) / (1073741824 * n)) ≤ 1 ∧
    1 - 1/100000000000000000000000000000 ≤ ((rd (cn a * cn b) : Rat) / (1073741824 * n)) * ((rd (cn a * cn b) : Rat) / (1073741824 * n)) + ((rd (cn a * sn b) : Rat) / (1073741824 * n)) * ((rd (cn a * sn b) : Rat) / (1073741824 * n)) + ((sn a : Rat) / (1073741824 * n)) * ((sn a : Rat) / (1073741824 * n)) := by
  obtain ⟨h0, h1⟩ := norm_b a b
  have r0 := rle2 h0
  have r1 := rle2 h1
  simp only [Rat.intCast_mul, Rat.intCast_add, Rat.intCast_sub, Rat.intCast_ofNat] at r0 r1
  generalize (rd (cn a * cn b) : Rat) = x at *
  generalize (rd (cn a * sn b) : Rat) = y at *
  generalize (sn a : Rat) = z at *
  obtain ⟨s, s0, s1, s2, s3⟩ := root ((x * x + y * y + z * z) / 1152921504606846976) (by grind) (by grind)
  have hs : 9999999/10000000 ≤ s := by
    refine le_of_sq s0 ?_
    grind
  have hs2 : s ≤ 1 + 9/1000000000 := by
    refine le_of_sq (by grind) ?_
    grind
  have e : ∀ n : Rat, 0 < n → x / (1073741824 * n) * (x / (1073741824 * n)) + y / (1073741824 * n) * (y / (1073741824 * n)) + z / (1073741824 * n) * (z / (1073741824 * n)) = (x * x + y * y + z * z) / 1152921504606846976 / (n * n) := fun n hn => by
    have : n ≠ 0 := by grind
    grind
  refine ⟨s + 1/1000000000000000000000000000000, ⟨by grind, by grind⟩, ?_⟩
  rw [e _ (by grind)]
  generalize (x * x + y * y + z * z) / 1152921504606846976 = v at *
  have n0 : 0 < (s + 1/1000000000000000000000000000000) * (s + 1/1000000000000000000000000000000) := Rat.mul_pos (by grind) (by grind)
  have hz : v / ((s + 1/1000000000000000000000000000000) * (s + 1/1000000000000000000000000000000)) * ((s + 1/1000000000000000000000000000000) * (s + 1/1000000000000000000000000000000)) = v := by
    refine Rat.div_mul_cancel ?_
    grind
  have n1 : v ≤ (s + 1/1000000000000000000000000000000) * (s + 1/1000000000000000000000000000000) := by grind
  have n2 : (s + 1/1000000000000000000000000000000) * (s + 1/1000000000000000000000000000000) ≤ v + 3/1000000000000000000000000000000 := by grind
  have n3 : 9/10 ≤ (s + 1/1000000000000000000000000000000) * (s + 1/1000000000000000000000000000000) := by
    have := Rat.mul_nonneg (a := s - 9999999/10000000) (b := s + 9999999/10000000) (by grind) (by grind)
    grind
  generalize (s + 1/1000000000000000000000000000000) * (s + 1/1000000000000000000000000000000) = D at *
  generalize v / D = z at *
  clear e s0 s1 s2 s3 hs hs2 r0 r1
  constructor
  · refine Classical.byContradiction fun hn => ?_
    have := Rat.mul_pos (a := z - 1) (b := D) (by grind) n0
    grind
  · refine Classical.byContradiction fun hn => ?_
    have := Rat.mul_pos (a := 1 - 1/100000000000000000000000000000 - z) (b := D) (by grind) n0
    grind
theorem SS_two : 104 ≤ 1073741824 * SS 2 ∧ 1073741824 * SS 2 ≤ 105 := by
  obtain ⟨e1, e2⟩ := CS_add 1 1
  have c := cu_lo
  have s := su_k
  rw [show (1 : Int) + 1 = 2 from rfl, CC_one, SS_one] at *
  rw [e2]
  have k := Rat.mul_nonneg (a := su) (b := 1 - cu) (by grind) (by grind)
  have k2 := Rat.mul_nonneg (a := 1/1000000 - su) (b := 1 - cu) (by grind) (by grind)
  constructor <;> grind
theorem at2_half {y : Int} (x : Int) (hy : 0 ≤ y) : at2 y x ≤ 64800000 := by
  have := atq_b y x
  unfold at2
  repeat' split
  all_goals omega
theorem dv_at (a b c d : Int) : dv a b c d = at2 (isq (csum (rd (cn a * sn b) * sn c - sn a * rd (cn c * sn d)) (sn a * rd (cn c * cn d) - rd (cn a * cn b) * sn c) (rd (cn a * cn b) * rd (cn c * sn d) - rd (cn a * sn b) * rd (cn c * cn d)))) (rd (rd (cn a * cn b) * rd (cn c * cn d) + rd (cn a * sn b) * rd (cn c * sn d) + sn a * sn c)) := by
  have u1 : Unit3 (rd (cn a * cn b)) (rd (cn a * sn b)) (sn a) := norm_b a b
  have u2 : Unit3 (rd (cn c * cn d)) (rd (cn c * sn d)) (sn c) := norm_b c d
  have hok := dist_ok u1 u2
  unfold dv
  generalize csum (rd (cn a * sn b) * sn c - sn a * rd (cn c * sn d)) (sn a * rd (cn c * cn d) - rd (cn a * cn b) * sn c) (rd (cn a * cn b) * rd (cn c * sn d) - rd (cn a * sn b) * rd (cn c * cn d)) = S at *
  generalize rd (rd (cn a * cn b) * rd (cn c * cn d) + rd (cn a * sn b) * rd (cn c * sn d) + sn a * sn c) = D at *
  unfold a2 at hok ⊢
  split
  · next h =>
    rw [if_pos h] at hok
    split
    · next h' => rw [if_pos h'] at hok; exact absurd hok (by decide)
    · rfl
  · next h => rw [if_neg h] at hok; exact absurd hok (by decide)
theorem dv_b (a b c d : Int) : 0 ≤ dv a b c d ∧ dv a b c d ≤ 64800000 := by
  have u1 : Unit3 (rd (cn a * cn b)) (rd (cn a * sn b)) (sn a) := norm_b a b
  have u2 : Unit3 (rd (cn c * cn d)) (rd (cn c * sn d)) (sn c) := norm_b c d
  obtain ⟨_, _, _, _, s0, s1, _⟩ := dist_b u1 u2
  rw [dv_at]
  exact ⟨(at2_b _ _).1, at2_half _ (isq_bd s0 s1).1⟩
/-- a direction out of whole numbers near it: what lies two units to either side. -/
theorem dir_two {m x t : Int} {X Y K : Rat} (k0 : 1073740000 ≤ K) (k1 : K ≤ 1073742000) (h1 : X * X + Y * Y ≤ K * K) (h0 : K * K - 1 ≤ X * X + Y * Y) (x0 : -(1/2) ≤ (x : Rat) - X) (x1 : (x : Rat) - X ≤ 1/2) (y0 : -2 ≤ (m : Rat) - Y) (y1 : (m : Rat) - Y ≤ 1) (ht : t = at2 m x) :
    40 ≤ X * SS (t + 2) - Y * CC (t + 2) ∧ X * SS (t - 2) - Y * CC (t - 2) ≤ -40 := by
  have n1 : nrm X Y 0 K := ⟨by grind, by grind⟩
  have n2 : nrm ((x : Rat) - X) ((m : Rat) - Y) 0 3 := ⟨by grind, by
    have p1 := mulab (a := (x : Rat) - X) (b := (x : Rat) - X) x0 x1 x0 x1
    have p2 := mulab (a := (m : Rat) - Y) (b := (m : Rat) - Y) y0 (show (m : Rat) - Y ≤ 2 by grind) y0 (show (m : Rat) - Y ≤ 2 by grind)
    grind⟩
  have n3 := nrm_add n1 n2
  have g : ∀ X x : Rat, X + (x - X) = x := fun X x => by grind
  rw [g, g] at n3
  obtain ⟨⟨d1, d2⟩, d3, d4⟩ := dir_u m x (K + 3) (by grind) (by have := n3.2; grind)
  rw [← ht] at d1 d2 d3 d4
  have ⟨⟨c1, c2⟩, s1, s2⟩ := CS_1 t
  have ⟨⟨c3, c4⟩, _⟩ := CS_1 2
  have st := SS_two
  have a1 := mulab (a := (m : Rat) - Y) (b := CC t) (A := 2) (B := 1) y0 (by grind) c1 c2
  have a2 := mulab (a := (x : Rat) - X) (b := SS t) (A := 1/2) (B := 1) x0 x1 s1 s2
  have a3 := mulab (a := (m : Rat) - Y) (b := SS t) (A := 2) (B := 1) y0 (by grind) s1 s2
  have a4 := mulab (a := (x : Rat) - X) (b := CC t) (A := 1/2) (B := 1) x0 x1 c1 c2
  have q1 : -58 ≤ X * SS t - Y * CC t ∧ X * SS t - Y * CC t ≤ 58 := by
    have e : X * SS t - Y * CC t = -((m : Rat) * CC t - (x : Rat) * SS t) + ((m : Rat) - Y) * CC t - ((x : Rat) - X) * SS t := by grind
    rw [e]
    generalize ((m : Rat) - Y) * CC t = T1 at *
    generalize ((x : Rat) - X) * SS t = T2 at *
    generalize (m : Rat) * CC t - (x : Rat) * SS t = T3 at *
    clear n1 n2 n3 h0 h1
    constructor <;> grind
  have p1 : -5 ≤ X * CC t + Y * SS t := by
    have e : X * CC t + Y * SS t = ((x : Rat) * CC t + (m : Rat) * SS t) - ((m : Rat) - Y) * SS t - ((x : Rat) - X) * CC t := by grind
    rw [e]
    generalize ((m : Rat) - Y) * SS t = T1 at *
    generalize ((x : Rat) - X) * CC t = T2 at *
    generalize (x : Rat) * CC t + (m : Rat) * SS t = T3 at *
    clear n1 n2 n3 h0 h1
    grind
  have hl := dir_len X Y _ _ (CS_unit t)
  have ea := CS_add t 2
  have eb := CS_sub t 2
  have f1 : X * SS (t + 2) - Y * CC (t + 2) = (X * SS t - Y * CC t) * CC 2 + (X * CC t + Y * SS t) * SS 2 := by rw [ea.1, ea.2]; grind
  have f2 : X * SS (t - 2) - Y * CC (t - 2) = (X * SS t - Y * CC t) * CC 2 - (X * CC t + Y * SS t) * SS 2 := by rw [eb.1, eb.2]; grind
  have f3 : (X * CC t + Y * SS t) * (X * CC t + Y * SS t) + (X * SS t - Y * CC t) * (X * SS t - Y * CC t) = X * X + Y * Y := by rw [← hl]; grind
  rw [f1, f2]
  clear hl ea eb f1 f2 n1 n2 n3 d1 d2 d3 d4 a1 a2 a3 a4
  generalize X * SS t - Y * CC t = q at *
  generalize X * CC t + Y * SS t = p at *
  generalize CC 2 = c at *
  generalize SS 2 = s at *
  have q2 := mulab q1.1 q1.2 q1.1 q1.2
  have q3 := mulab (A := 58) (B := 1) q1.1 q1.2 c3 c4
  have hp : 1070000000 ≤ p := by
    refine Classical.byContradiction fun hn => ?_
    have k1 := Rat.mul_nonneg (a := 1070000000 - p) (b := 1070000000 + p) (by grind) (by grind)
    have k2 := Rat.mul_nonneg (a := K - 1073740000) (b := K + 1073740000) (by grind) (by grind)
    grind
  have k3 := Rat.mul_nonneg (a := p - 1070000000) (b := s) (by grind) (by grind)
  have k4 : 1070000000 * s ≤ p * s := by grind
  clear k3 f3 q2 h0 h1 g x0 x1 y0 y1 ht
  generalize q * c = T at *
  generalize p * s = U at *
  constructor <;> grind
theorem dist_cos_core {W0 W1 W2 D m t : Int} {p0 p1 p2 q0 q1 q2 K : Rat} (k0 : 1073740000 ≤ K) (k1 : K ≤ 1073742000)
    (hp : p0 * p0 + p1 * p1 + p2 * p2 ≤ 1) (gp : 1 - 1/100000000000000000000000000000 ≤ p0 * p0 + p1 * p1 + p2 * p2) (hq : q0 * q0 + q1 * q1 + q2 * q2 ≤ 1) (gq : 1 - 1/100000000000000000000000000000 ≤ q0 * q0 + q1 * q1 + q2 * q2)
    (w0 : (W0 : Rat) / 1073741824 = K * (p1 * q2 - p2 * q1)) (w1 : (W1 : Rat) / 1073741824 = K * (p2 * q0 - p0 * q2)) (w2 : (W2 : Rat) / 1073741824 = K * (p0 * q1 - p1 * q0)) (hD : (D : Rat) / 1073741824 = K * (p0 * q0 + p1 * q1 + p2 * q2))
    (m0 : 0 ≤ m) (h1 : m * m ≤ csum W0 W1 W2) (h2 : csum W0 W1 W2 < (m + 1) * (m + 1)) (ht : t = at2 m (rd D)) (t0 : 0 ≤ t) (t1 : t ≤ 64800000) :
    (t + 2 ≤ 64799998 → CC (t + 2) ≤ p0 * q0 + p1 * q1 + p2 * q2) ∧ (4 ≤ t → p0 * q0 + p1 * q1 + p2 * q2 ≤ CC (t - 2)) := by
  have hl : (p1 * q2 - p2 * q1) * (p1 * q2 - p2 * q1) + (p2 * q0 - p0 * q2) * (p2 * q0 - p0 * q2) + (p0 * q1 - p1 * q0) * (p0 * q1 - p1 * q0) = (p0 * p0 + p1 * p1 + p2 * p2) * (q0 * q0 + q1 * q1 + q2 * q2) - (p0 * q0 + p1 * q1 + p2 * q2) * (p0 * q0 + p1 * q1 + p2 * q2) := by grind
  have r := rd_r D
  rw [hD] at r
  generalize p0 * q0 + p1 * q1 + p2 * q2 = u at *
  generalize p0 * p0 + p1 * p1 + p2 * p2 = PP at *
  generalize q0 * q0 + q1 * q1 + q2 * q2 = QQ at *
  generalize p1 * q2 - p2 * q1 = c0 at *
  generalize p2 * q0 - p0 * q2 = c1 at *
  generalize p0 * q1 - p1 * q0 = c2 at *
  have v0 : 0 ≤ c0 * c0 + c1 * c1 + c2 * c2 := by have := rsq c0; have := rsq c1; have := rsq c2; grind
  have pq1 : PP * QQ ≤ 1 := by
    have := Rat.mul_nonneg (a := 1 - PP) (b := QQ) (by grind) (by grind)
    grind
  have pq0 : 1 - 2/100000000000000000000000000000 ≤ PP * QQ := by
    have := Rat.mul_nonneg (a := PP - (1 - 1/100000000000000000000000000000)) (b := QQ - (1 - 1/100000000000000000000000000000)) (by grind) (by grind)
    grind
  have uu := rsq u
  generalize PP * QQ = N at *
  obtain ⟨y, y0, y1, y2, y3⟩ := root (c0 * c0 + c1 * c1 + c2 * c2) v0 (by grind)
  have sm : (0 : Rat) ≤ 1/1000000000000000 := by grind
  have yy := Rat.mul_nonneg y0 sm
  obtain ⟨A, B⟩ := csum_two (e := 0) m m0 h1 h2 (K * c0) (K * c1) (K * c2) ⟨by grind, by rw [w0, w1, w2]; grind⟩
  have a := A (K * (y + 1/1000000000000000)) (nrm_smul (show nrm c0 c1 c2 (y + 1/1000000000000000) from ⟨by grind, by grind⟩) (by grind))
  have kk := Rat.mul_nonneg (a := K) (b := K) (by grind) (by grind)
  have b : K * y ≤ (m : Rat) + 19/10 + 0 := by
    refine le_of_sq B.1 ?_
    have := B.2
    have k := Rat.mul_nonneg kk (b := c0 * c0 + c1 * c1 + c2 * c2 - y * y) (by grind)
    grind
  have n1 : K * u * (K * u) + K * y * (K * y) ≤ K * K := by
    have k := Rat.mul_nonneg kk (b := 1 - (u * u + y * y)) (by grind)
    grind
  have n2 : K * K - 1 ≤ K * u * (K * u) + K * y * (K * y) := by
    have k := Rat.mul_nonneg kk (b := u * u + y * y - (1 - 3/100000000000000000000000000000)) (by grind)
    have k2 := Rat.mul_nonneg (a := 1073742000 - K) (b := 1073742000 + K) (by grind) (by grind)
    grind
  obtain ⟨d1, d2⟩ := dir_two k0 k1 n1 n2 r.1 r.2 (by grind) (by grind) ht
  have K0 : 0 < K := by grind
  have f1 : 3/100000000 ≤ u * SS (t + 2) - y * CC (t + 2) := by
    refine Classical.byContradiction fun hn => ?_
    have e : K * u * SS (t + 2) - K * y * CC (t + 2) = K * (u * SS (t + 2) - y * CC (t + 2)) := by grind
    rw [e] at d1
    generalize u * SS (t + 2) - y * CC (t + 2) = z at *
    have := Rat.mul_pos (a := K) (b := 3/100000000 - z) K0 (by grind)
    grind
  have f2 : 3/100000000 ≤ -u * SS (t - 2) - y * -CC (t - 2) := by
    refine Classical.byContradiction fun hn => ?_
    have e : K * u * SS (t - 2) - K * y * CC (t - 2) = -(K * (-u * SS (t - 2) - y * -CC (t - 2))) := by grind
    rw [e] at d2
    generalize -u * SS (t - 2) - y * -CC (t - 2) = z at *
    have := Rat.mul_pos (a := K) (b := 3/100000000 - z) K0 (by grind)
    grind
  refine ⟨fun h => ?_, fun h => ?_⟩
  · have sp := SS_pos (s := t + 2) (by omega) h
    exact cos_lo (m := 3/100000000) (ν := 3/100000000000000000000000000000) (CS_unit (t + 2)) (by grind) (by grind) y0 (by grind) (by grind) f1 (by grind)
  · have sp := SS_pos (s := t - 2) (by omega) (by omega)
    have cu := CS_unit (t - 2)
    have := cos_lo (x := -u) (C := -CC (t - 2)) (m := 3/100000000) (ν := 3/100000000000000000000000000000) (by grind) (by grind) (by grind) y0 (by grind) (by grind) f2 (by grind)
    grind
theorem scale_b {n1 n2 : Rat} (b1 : 9999999/10000000 ≤ n1 ∧ n1 ≤ 1 + 1/100000000) (b2 : 9999999/10000000 ≤ n2 ∧ n2 ≤ 1 + 1/100000000) : 1073740000 ≤ 1073741824 * (n1 * n2) ∧ 1073741824 * (n1 * n2) ≤ 1073742000 := by
  have k1 := Rat.mul_nonneg (a := n1 - 9999999/10000000) (b := n2 - 9999999/10000000) (by grind) (by grind)
  have k2 := Rat.mul_nonneg (a := 1 + 1/100000000 - n1) (b := n2) (by grind) (by grind)
  constructor <;> grind
theorem scale_e : ∀ (x n : Rat), 9999999/10000000 ≤ n → x = 1073741824 * n * (x / (1073741824 * n)) := fun x n hn => by
  have : n ≠ 0 := by grind
  grind
theorem scale_c {X Y Z W : Rat} {n1 n2 p q r s : Rat} (h1 : X = 1073741824 * n1 * p) (h2 : Y = 1073741824 * n2 * q) (h3 : Z = 1073741824 * n1 * r) (h4 : W = 1073741824 * n2 * s) : (X * Y - Z * W) / 1073741824 = 1073741824 * (n1 * n2) * (p * q - r * s) := by
  subst h1 h2 h3 h4; grind
theorem scale_d {X Y Z W V T : Rat} {n1 n2 p q r s t u : Rat} (h1 : X = 1073741824 * n1 * p) (h2 : Y = 1073741824 * n2 * q) (h3 : Z = 1073741824 * n1 * r) (h4 : W = 1073741824 * n2 * s) (h5 : V = 1073741824 * n1 * t) (h6 : T = 1073741824 * n2 * u) : (X * Y + Z * W + V * T) / 1073741824 = 1073741824 * (n1 * n2) * (p * q + r * s + t * u) := by
  subst h1 h2 h3 h4 h5 h6; grind
/-- a distance against the scalar product of the scaled vectors. -/
theorem dist_cos (a b c d : Int) (n1 n2 : Rat) (b1 : 9999999/10000000 ≤ n1 ∧ n1 ≤ 1 + 1/100000000) (b2 : 9999999/10000000 ≤ n2 ∧ n2 ≤ 1 + 1/100000000)
    (p0 p1 p2 q0 q1 q2 : Rat) (ep0 : p0 = (rd (cn a * cn b) : Rat) / (1073741824 * n1)) (ep1 : p1 = (rd (cn a * sn b) : Rat) / (1073741824 * n1)) (ep2 : p2 = (sn a : Rat) / (1073741824 * n1))
    (eq0 : q0 = (rd (cn c * cn d) : Rat) / (1073741824 * n2)) (eq1 : q1 = (rd (cn c * sn d) : Rat) / (1073741824 * n2)) (eq2 : q2 = (sn c : Rat) / (1073741824 * n2))
    (hp : p0 * p0 + p1 * p1 + p2 * p2 ≤ 1) (gp : 1 - 1/100000000000000000000000000000 ≤ p0 * p0 + p1 * p1 + p2 * p2) (hq : q0 * q0 + q1 * q1 + q2 * q2 ≤ 1) (gq : 1 - 1/100000000000000000000000000000 ≤ q0 * q0 + q1 * q1 + q2 * q2) :
    (dv a b c d + 2 ≤ 64799998 → CC (dv a b c d + 2) ≤ p0 * q0 + p1 * q1 + p2 * q2) ∧ (4 ≤ dv a b c d → p0 * q0 + p1 * q1 + p2 * q2 ≤ CC (dv a b c d - 2)) := by
  have u1 : Unit3 (rd (cn a * cn b)) (rd (cn a * sn b)) (sn a) := norm_b a b
  have u2 : Unit3 (rd (cn c * cn d)) (rd (cn c * sn d)) (sn c) := norm_b c d
  obtain ⟨_, _, _, bD, s0, s1, _⟩ := dist_b u1 u2
  have hi := isq_bd s0 s1
  have tb := dv_b a b c d
  have kb := scale_b b1 b2
  have e := scale_e
  have f0 := e (rd (cn a * cn b) : Rat) n1 b1.1
  have f1 := e (rd (cn a * sn b) : Rat) n1 b1.1
  have f2 := e (sn a : Rat) n1 b1.1
  have g0 := e (rd (cn c * cn d) : Rat) n2 b2.1
  have g1 := e (rd (cn c * sn d) : Rat) n2 b2.1
  have g2 := e (sn c : Rat) n2 b2.1
  rw [← ep0] at f0
  rw [← ep1] at f1
  rw [← ep2] at f2
  rw [← eq0] at g0
  rw [← eq1] at g1
  rw [← eq2] at g2
  have cW0 : ((rd (cn a * sn b) * sn c - sn a * rd (cn c * sn d) : Int) : Rat) / 1073741824 = 1073741824 * (n1 * n2) * (p1 * q2 - p2 * q1) := by simp only [Rat.intCast_sub, Rat.intCast_mul]; exact scale_c f1 g2 f2 g1
  have cW1 : ((sn a * rd (cn c * cn d) - rd (cn a * cn b) * sn c : Int) : Rat) / 1073741824 = 1073741824 * (n1 * n2) * (p2 * q0 - p0 * q2) := by simp only [Rat.intCast_sub, Rat.intCast_mul]; exact scale_c f2 g0 f0 g2
  have cW2 : ((rd (cn a * cn b) * rd (cn c * sn d) - rd (cn a * sn b) * rd (cn c * cn d) : Int) : Rat) / 1073741824 = 1073741824 * (n1 * n2) * (p0 * q1 - p1 * q0) := by simp only [Rat.intCast_sub, Rat.intCast_mul]; exact scale_c f0 g1 f1 g0
  have cD : ((rd (cn a * cn b) * rd (cn c * cn d) + rd (cn a * sn b) * rd (cn c * sn d) + sn a * sn c : Int) : Rat) / 1073741824 = 1073741824 * (n1 * n2) * (p0 * q0 + p1 * q1 + p2 * q2) := by simp only [Rat.intCast_add, Rat.intCast_mul]; exact scale_d f0 g0 f1 g1 f2 g2
  exact dist_cos_core kb.1 kb.2 hp gp hq gq cW0 cW1 cW2 cD hi.1 hi.2.1 hi.2.2 (dv_at a b c d) tb.1 tb.2
/-- the triangle inequality. -/
theorem dist_tri (a b c d e f : Int) : dv a b e f ≤ dv a b c d + dv c d e f + 6 := by
  refine Classical.byContradiction fun hn => ?_
  have t1 := dv_b a b c d
  have t2 := dv_b c d e f
  have t3 := dv_b a b e f
  obtain ⟨n1, b1, p1, p0⟩ := unit_ex a b
  obtain ⟨n2, b2, q1, q0⟩ := unit_ex c d
  obtain ⟨n3, b3, r1, r0⟩ := unit_ex e f
  have d1 := (dist_cos a b c d n1 n2 b1 b2 _ _ _ _ _ _ rfl rfl rfl rfl rfl rfl p1 p0 q1 q0).1 (by omega)
  have d2 := (dist_cos c d e f n2 n3 b2 b3 _ _ _ _ _ _ rfl rfl rfl rfl rfl rfl q1 q0 r1 r0).1 (by omega)
  have d3 := (dist_cos a b e f n1 n3 b1 b3 _ _ _ _ _ _ rfl rfl rfl rfl rfl rfl p1 p0 r1 r0).2 (by omega)
  have sa := SS_pos (s := dv a b c d + 2) (by omega) (by omega)
  have sb := SS_pos (s := dv c d e f + 2) (by omega) (by omega)
  have sc := SS_pos (s := dv a b c d + 2 + (dv c d e f + 2)) (by omega) (by omega)
  have ad := CS_add (dv a b c d + 2) (dv c d e f + 2)
  have tc := tri_cos p1 q1 r1 (CS_unit (dv a b c d + 2)) (CS_unit (dv c d e f + 2)) (by grind) (by grind) (by rw [ad.2] at sc; grind) d1 d2
  rw [← ad.1] at tc
  have dc := CC_dec (dv a b c d + 2 + (dv c d e f + 2)) (by omega) (dv a b e f - 2 - (dv a b c d + 2 + (dv c d e f + 2)) - 1).toNat (by omega)
  have ee : dv a b c d + 2 + (dv c d e f + 2) + 1 + ((dv a b e f - 2 - (dv a b c d + 2 + (dv c d e f + 2)) - 1).toNat : Int) = dv a b e f - 2 := by omega
  rw [ee] at dc
  grind
theorem iabs_sub (x y : Int) : iabs (x - y) = iabs (y - x) := by unfold iabs; split <;> split <;> omega
theorem dv_sym (a b c d : Int) : dv a b c d = dv c d a b := by
  rw [dv_at, dv_at]
  unfold csum
  rw [iabs_sub (rd (cn a * sn b) * sn c), iabs_sub (sn a * rd (cn c * cn d)), iabs_sub (rd (cn a * cn b) * rd (cn c * sn d))]
  rw [Int.mul_comm (sn a) (rd (cn c * sn d)), Int.mul_comm (rd (cn a * sn b)) (sn c), Int.mul_comm (rd (cn a * cn b)) (sn c), Int.mul_comm (sn a) (rd (cn c * cn d)), Int.mul_comm (rd (cn a * sn b)) (rd (cn c * cn d)), Int.mul_comm (rd (cn a * cn b)) (rd (cn c * sn d)), Int.mul_comm (rd (cn a * cn b)) (rd (cn c * cn d)), Int.mul_comm (rd (cn a * sn b)) (rd (cn c * sn d)), Int.mul_comm (sn a) (sn c)]
theorem self_core (x y z : Int) (h : Unit3 x y z) : at2 (isq (csum (y * z - z * y) (z * x - x * z) (x * y - y * x))) (rd (x * x + y * y + z * z)) = 0 := by
  rw [Int.mul_comm z y, Int.mul_comm z x, Int.mul_comm y x, Int.sub_self, Int.sub_self, Int.sub_self]
  have c0 : csum 0 0 0 = 0 := by decide +kernel
  have i0 := isq_bd (n := 0) (by omega) (by omega)
  rw [c0]
  have e : isq 0 = 0 := by
    rcases Int.mul_eq_zero.1 (show isq 0 * isq 0 = 0 by have := mul_nnsq (isq 0); omega) with k | k <;> exact k
  rw [e]
  unfold Unit3 at h
  generalize x * x + y * y + z * z = u at *
  have hb := (at2_b 0 (rd u)).1
  have k : at2 0 (rd u) ≤ 0 := by
    refine at2_le _ _ 0 (by omega) (by omega) (by omega) (by unfold rd; omega) ?_
    have s : 0 < sn (0 + 1) := by decide +kernel
    rw [Int.mul_zero]
    exact Int.mul_pos s (by unfold rd; omega)
  omega
theorem dv_self (a b : Int) : dv a b a b = 0 := by
  rw [dv_at]
  exact self_core _ _ _ (norm_b a b)
end Go.Proofs.Ytmlacekgmdlfjaa
