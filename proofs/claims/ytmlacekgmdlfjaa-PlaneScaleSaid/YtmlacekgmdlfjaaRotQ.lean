/- Positions along a great circle against exact ones. -/
import Derived.Test.YtmlacekgmdlfjaaRotO
namespace Go.Proofs.Ytmlacekgmdlfjaa
open Go.RowKit Go.Joins Fdk
set_option linter.unusedVariables false
theorem nrm_sc {x y z r k κ : Rat} (h : nrm x y z r) (k1 : -κ ≤ k) (k2 : k ≤ κ) : nrm (k * x) (k * y) (k * z) (κ * r) := by
  have κ0 : 0 ≤ κ := by grind
  refine ⟨Rat.mul_nonneg κ0 h.1, ?_⟩
  have m1 := Rat.mul_nonneg (a := κ - k) (b := κ + k) (by grind) (by grind)
  have n0 : 0 ≤ x * x + y * y + z * z := by have := rsq x; have := rsq y; have := rsq z; grind
  have m2 := Rat.mul_nonneg m1 n0
  have m3 := Rat.mul_nonneg (rsq κ) (b := r * r - (x * x + y * y + z * z)) (by have := h.2; grind)
  have e : k * x * (k * x) + k * y * (k * y) + k * z * (k * z) = k * k * (x * x + y * y + z * z) := by grind
  have e2 : κ * r * (κ * r) = κ * κ * (r * r) := by grind
  rw [e, e2]
  generalize x * x + y * y + z * z = N at *
  generalize r * r = R at *
  grind
theorem nrm_comp {x y z A B C r : Rat} (h1 : -A ≤ x) (h2 : x ≤ A) (h3 : -B ≤ y) (h4 : y ≤ B) (h5 : -C ≤ z) (h6 : z ≤ C) (r0 : 0 ≤ r) (h : A * A + B * B + C * C ≤ r * r) : nrm x y z r := by
  have a := mulab h1 h2 h1 h2
  have b := mulab h3 h4 h3 h4
  have c := mulab h5 h6 h5 h6
  exact ⟨r0, by grind⟩
theorem rd_nrm (x y z : Int) : nrm ((rd x : Rat) - (x : Rat) / 1073741824) ((rd y : Rat) - (y : Rat) / 1073741824) ((rd z : Rat) - (z : Rat) / 1073741824) (9/10) := by
  have a := rd_r x
  have b := rd_r y
  have c := rd_r z
  exact nrm_comp a.1 a.2 b.1 b.2 c.1 c.2 (by grind) (by grind)
theorem of_nrm {c d : Int} (hv : vd c d = true) : nrm ((rd (cn c * cn d) : Rat) - 1073741824 * (CC c * CC d)) ((rd (cn c * sn d) : Rat) - 1073741824 * (CC c * SS d)) ((sn c : Rat) - 1073741824 * SS c) (67/10) := by
  have ⟨o1, o2, o3⟩ := of_near hv
  exact nrm_comp o1.1 o1.2 o2.1 o2.2 o3.1 o3.2 (by grind) (by grind)
theorem unit_U (a b : Int) : CC a * CC b * (CC a * CC b) + CC a * SS b * (CC a * SS b) + SS a * SS a = 1 := by
  have h1 := CS_unit a
  have h2 := CS_unit b
  have e : CC a * CC b * (CC a * CC b) + CC a * SS b * (CC a * SS b) + SS a * SS a = CC a * CC a * (CC b * CC b + SS b * SS b) + SS a * SS a := by grind
  rw [e, h2]; grind
/-- a mix of two whole vectors by the program's sine and cosine, rounded. -/
theorem mix_near {x0 x1 x2 y0 y1 y2 s c : Int} {X0 X1 X2 Y0 Y1 Y2 S C r t : Rat} (hx : nrm ((x0 : Rat) - 1073741824 * X0) ((x1 : Rat) - 1073741824 * X1) ((x2 : Rat) - 1073741824 * X2) r) (hy : nrm ((y0 : Rat) - 1073741824 * Y0) ((y1 : Rat) - 1073741824 * Y1) ((y2 : Rat) - 1073741824 * Y2) t)
    (ux : nrm X0 X1 X2 1) (uy : nrm Y0 Y1 Y2 1) (s0 : -1073741824 ≤ s) (s1 : s ≤ 1073741824) (c0 : -1073741824 ≤ c) (c1 : c ≤ 1073741824) (hs : -2 ≤ (s : Rat) - 1073741824 * S ∧ (s : Rat) - 1073741824 * S ≤ 2) (hc : -2 ≤ (c : Rat) - 1073741824 * C ∧ (c : Rat) - 1073741824 * C ≤ 2) :
    nrm ((rd (x0 * s + y0 * c) : Rat) - 1073741824 * (X0 * S + Y0 * C)) ((rd (x1 * s + y1 * c) : Rat) - 1073741824 * (X1 * S + Y1 * C)) ((rd (x2 * s + y2 * c) : Rat) - 1073741824 * (X2 * S + Y2 * C)) (r + t + 49/10) := by
  have hr := rd_nrm (x0 * s + y0 * c) (x1 * s + y1 * c) (x2 * s + y2 * c)
  simp only [Rat.intCast_add, Rat.intCast_mul] at hr
  have s0 := rle2 s0
  have s1 := rle2 s1
  have c0 := rle2 c0
  have c1 := rle2 c1
  simp only [Rat.intCast_neg, Rat.intCast_ofNat] at s0 s1 c0 c1
  have a1 := nrm_sc hx (k := (s : Rat) / 1073741824) (κ := 1) (by grind) (by grind)
  have a2 := nrm_sc hy (k := (c : Rat) / 1073741824) (κ := 1) (by grind) (by grind)
  have a3 := nrm_sc ux (k := (s : Rat) - 1073741824 * S) (κ := 2) hs.1 hs.2
  have a4 := nrm_sc uy (k := (c : Rat) - 1073741824 * C) (κ := 2) hc.1 hc.2
  have a5 := nrm_mono (nrm_add hr (nrm_add (nrm_add a1 a2) (nrm_add a3 a4))) (t := r + t + 49/10) (by grind)
  have g : ∀ R x y X Y : Rat, R - (x * (s : Rat) + y * (c : Rat)) / 1073741824 + ((s : Rat) / 1073741824 * (x - 1073741824 * X) + (c : Rat) / 1073741824 * (y - 1073741824 * Y) + (((s : Rat) - 1073741824 * S) * X + ((c : Rat) - 1073741824 * C) * Y)) = R - 1073741824 * (X * S + Y * C) := fun R x y X Y => by grind
  rw [g, g, g] at a5
  exact a5
/-- the exact directions to the east, to the north, of a course. -/
theorem unit_E (b : Int) : -SS b * (-SS b) + CC b * CC b + 0 * 0 = 1 := by have := CS_unit b; grind
theorem unit_N (a b : Int) : -(SS a * CC b) * (-(SS a * CC b)) + -(SS a * SS b) * (-(SS a * SS b)) + CC a * CC a = 1 := by
  have h1 := CS_unit a
  have h2 := CS_unit b
  have e : -(SS a * CC b) * (-(SS a * CC b)) + -(SS a * SS b) * (-(SS a * SS b)) + CC a * CC a = SS a * SS a * (CC b * CC b + SS b * SS b) + CC a * CC a := by grind
  rw [e, h2]; grind
def dX (a b t : Int) : Rat := -SS b * SS t + -(SS a * CC b) * CC t
def dY (a b t : Int) : Rat := CC b * SS t + -(SS a * SS b) * CC t
def dZ (a b t : Int) : Rat := 0 * SS t + CC a * CC t
theorem unit_D (a b t : Int) : dX a b t * dX a b t + dY a b t * dY a b t + dZ a b t * dZ a b t = 1 ∧ CC a * CC b * dX a b t + CC a * SS b * dY a b t + SS a * dZ a b t = 0 := by
  have h1 := CS_unit a
  have h2 := CS_unit b
  have h3 := CS_unit t
  unfold dX dY dZ
  generalize CC a = A at *
  generalize SS a = B at *
  generalize CC b = C at *
  generalize SS b = D at *
  generalize CC t = E at *
  generalize SS t = F at *
  constructor
  · have e : (-D * F + -(B * C) * E) * (-D * F + -(B * C) * E) + (C * F + -(B * D) * E) * (C * F + -(B * D) * E) + (0 * F + A * E) * (0 * F + A * E) = F * F * (C * C + D * D) + E * E * (B * B * (C * C + D * D) + A * A) := by grind
    rw [e, h2]
    have e2 : F * F * 1 + E * E * (B * B * 1 + A * A) = F * F + E * E * (A * A + B * B) := by grind
    rw [e2, h1]; grind
  · have e : A * C * (-D * F + -(B * C) * E) + A * D * (C * F + -(B * D) * E) + B * (0 * F + A * E) = A * B * E * (1 - (C * C + D * D)) := by grind
    rw [e, h2]; grind
/-- the exact position at a distance on a course. -/
def xX (a b t s : Int) : Rat := CC a * CC b * CC s + dX a b t * SS s
def xY (a b t s : Int) : Rat := CC a * SS b * CC s + dY a b t * SS s
def xZ (a b t s : Int) : Rat := SS a * CC s + dZ a b t * SS s
theorem x_dot (a b t s s' : Int) : xX a b t s * xX a b t s' + xY a b t s * xY a b t s' + xZ a b t s * xZ a b t s' = CC (s' - s) := by
  have h1 := unit_U a b
  have ⟨h2, h3⟩ := unit_D a b t
  have h4 := CS_sub s' s
  rw [h4.1]
  unfold xX xY xZ
  generalize CC a * CC b = U at *
  generalize CC a * SS b = V at *
  generalize SS a = W at *
  generalize dX a b t = X at *
  generalize dY a b t = Y at *
  generalize dZ a b t = Z at *
  have e : (U * CC s + X * SS s) * (U * CC s' + X * SS s') + (V * CC s + Y * SS s) * (V * CC s' + Y * SS s') + (W * CC s + Z * SS s) * (W * CC s' + Z * SS s') = (U * U + V * V + W * W) * (CC s * CC s') + (U * X + V * Y + W * Z) * (CC s * SS s' + SS s * CC s') + (X * X + Y * Y + Z * Z) * (SS s * SS s') := by grind
  rw [e, h1, h2, h3]; grind
theorem x_unit (a b t s : Int) : xX a b t s * xX a b t s + xY a b t s * xY a b t s + xZ a b t s * xZ a b t s = 1 := by
  rw [x_dot, show s - s = 0 by omega]; decide +kernel
/-- the vector that the program computes for a distance on a course is near the exact one. -/
theorem along_near {a b t s : Int} (hv : vd a b = true) (t0 : 0 ≤ t ∧ t < 129600000) (s0 : 0 ≤ s ∧ s ≤ 64800000) :
    nrm ((rd (rd (cn a * cn b) * cn s + rd (-sn b * sn t + -rd (sn a * cn b) * cn t) * sn s) : Rat) - 1073741824 * xX a b t s) ((rd (rd (cn a * sn b) * cn s + rd (cn b * sn t + -rd (sn a * sn b) * cn t) * sn s) : Rat) - 1073741824 * xY a b t s) ((rd (sn a * cn s + rd (0 * sn t + cn a * cn t) * sn s) : Rat) - 1073741824 * xZ a b t s) 27 := by
  have ⟨v1, v2⟩ := vd_of hv
  obtain ⟨⟨a1, a2⟩, a3, a4⟩ := nr_all (a := a) (by omega) (by omega)
  obtain ⟨⟨b1, b2⟩, b3, b4⟩ := nr_all (a := b) (by omega) (by omega)
  have nt := nr_all (a := t) (by omega) (by omega)
  have ns := nr_all (a := s) (by omega) (by omega)
  have ht := sn_b t
  have hct := cn_b t
  have hs := sn_b s
  have hcs := cn_b s
  have hc := sn_b a
  have ⟨⟨c1, c2⟩, s1, s2⟩ := CS_1 b
  have pe : nrm (((-sn b : Int) : Rat) - 1073741824 * (-SS b)) (((cn b : Int) : Rat) - 1073741824 * CC b) (((0 : Int) : Rat) - 1073741824 * 0) (29/10) := by
    have z0 : ((0 : Int) : Rat) = 0 := rfl
    rw [rneg, z0]
    exact nrm_comp (A := 2) (B := 2) (C := 0) (by grind) (by grind) (by grind) (by grind) (by grind) (by grind) (by grind) (by grind)
  have r1 := prod_r hc.1 hc.2 a1 a2 b3 b4 c1 c2
  have r2 := prod_r hc.1 hc.2 a1 a2 b1 b2 s1 s2
  have pn : nrm (((-rd (sn a * cn b) : Int) : Rat) - 1073741824 * (-(SS a * CC b))) (((-rd (sn a * sn b) : Int) : Rat) - 1073741824 * (-(SS a * SS b))) (((cn a : Int) : Rat) - 1073741824 * CC a) (67/10) := by
    rw [rneg, rneg]
    exact nrm_comp (A := 9/2) (B := 9/2) (C := 2) (by grind) (by grind) (by grind) (by grind) (by grind) (by grind) (by grind) (by grind)
  have md := mix_near pe pn ⟨by grind, by rw [unit_E]; grind⟩ ⟨by grind, by rw [unit_N]; grind⟩ ht.1 ht.2 hct.1 hct.2 nt.1 nt.2
  have mo := of_nrm hv
  have ud : nrm (dX a b t) (dY a b t) (dZ a b t) 1 := ⟨by grind, by rw [(unit_D a b t).1]; grind⟩
  have uu : nrm (CC a * CC b) (CC a * SS b) (SS a) 1 := ⟨by grind, by rw [unit_U]; grind⟩
  have mx := mix_near mo md uu ud hcs.1 hcs.2 hs.1 hs.2 ns.2 ns.1
  exact nrm_mono mx (by grind)
/-- the position of a whole vector that is near an exact direction, and its vector. -/
theorem posn_near (x y z : Int) (X Y Z e r : Rat) (r0 : 0 ≤ r) (hr : 6161 + (e + 1) * (e + 1) ≤ r * r) (hu : X * X + Y * Y + Z * Z = 1) (hn : nrm ((x : Rat) - 1073741824 * X) ((y : Rat) - 1073741824 * Y) ((z : Rat) - 1073741824 * Z) e) (he : e ≤ 100) :
    ∃ c d, posn x y z = (c, d, 0) ∧ vd c d = true ∧ nrm ((rd (cn c * cn d) : Rat) - 1073741824 * X) ((rd (cn c * sn d) : Rat) - 1073741824 * Y) ((sn c : Rat) - 1073741824 * Z) (r + 67/10 + e) := by
  have e0 := hn.1
  have nx : nrm (1073741824 * X) (1073741824 * Y) (1073741824 * Z) 1073741824 := ⟨by grind, by
    have : 1073741824 * X * (1073741824 * X) + 1073741824 * Y * (1073741824 * Y) + 1073741824 * Z * (1073741824 * Z) = 1152921504606846976 * (X * X + Y * Y + Z * Z) := by grind
    rw [this, hu]; grind⟩
  have nv := nrm_add nx hn
  have f : ∀ x X : Rat, 1073741824 * X + (x - 1073741824 * X) = x := fun x X => by grind
  rw [f, f, f] at nv
  have nk := nrm_add (show nrm (x : Rat) (y : Rat) (z : Rat) (1073741824 + e) from nv) (nrm_neg hn)
  have one : nrm 1 0 0 1 := ⟨by grind, by grind⟩
  have oney : nrm 0 1 0 1 := ⟨by grind, by grind⟩
  have onez : nrm 0 0 1 1 := ⟨by grind, by grind⟩
  have cx := nrm_dot nv one
  have cy := nrm_dot nv oney
  have cz := nrm_dot nv onez
  have ib : ∀ w : Int, -(1073741824 + e) ≤ (w : Rat) → (w : Rat) ≤ 1073741824 + e → -1342177280 ≤ w ∧ w ≤ 1342177280 := fun w h1 h2 => by
    constructor
    · refine ile ?_
      have z0 : ((-1342177280 : Int) : Rat) = -1342177280 := rfl
      rw [z0]; grind
    · refine ile ?_
      have z0 : ((1342177280 : Int) : Rat) = 1342177280 := rfl
      rw [z0]; grind
  -- the length from below
  have lo : (1073741824 - e) * (1073741824 - e) ≤ (x : Rat) * x + (y : Rat) * y + (z : Rat) * z := by
    have d := nrm_dot hn (show nrm X Y Z 1 from ⟨by grind, by grind⟩)
    have e1 : ((x : Rat) - 1073741824 * X) * X + ((y : Rat) - 1073741824 * Y) * Y + ((z : Rat) - 1073741824 * Z) * Z = ((x : Rat) * X + (y : Rat) * Y + (z : Rat) * Z) - 1073741824 := by
      have : ((x : Rat) - 1073741824 * X) * X + ((y : Rat) - 1073741824 * Y) * Y + ((z : Rat) - 1073741824 * Z) * Z = ((x : Rat) * X + (y : Rat) * Y + (z : Rat) * Z) - 1073741824 * (X * X + Y * Y + Z * Z) := by grind
      rw [this, hu]; grind
    rw [e1] at d
    have l : ((x : Rat) * X + (y : Rat) * Y + (z : Rat) * Z) * ((x : Rat) * X + (y : Rat) * Y + (z : Rat) * Z) ≤ (x : Rat) * x + (y : Rat) * y + (z : Rat) * z := by
      have a := rsq ((y : Rat) * Z - (z : Rat) * Y)
      have b := rsq ((z : Rat) * X - (x : Rat) * Z)
      have c := rsq ((x : Rat) * Y - (y : Rat) * X)
      have e2 : ((x : Rat) * X + (y : Rat) * Y + (z : Rat) * Z) * ((x : Rat) * X + (y : Rat) * Y + (z : Rat) * Z) = ((x : Rat) * x + (y : Rat) * y + (z : Rat) * z) * (X * X + Y * Y + Z * Z) - (((y : Rat) * Z - (z : Rat) * Y) * ((y : Rat) * Z - (z : Rat) * Y) + ((z : Rat) * X - (x : Rat) * Z) * ((z : Rat) * X - (x : Rat) * Z) + ((x : Rat) * Y - (y : Rat) * X) * ((x : Rat) * Y - (y : Rat) * X)) := by grind
      rw [e2, hu]; grind
    generalize (x : Rat) * X + (y : Rat) * Y + (z : Rat) * Z = G at *
    have := Rat.mul_nonneg (a := G - (1073741824 - e)) (b := G + (1073741824 - e)) (by grind) (by grind)
    grind
  have hne : ¬ (x = 0 ∧ y = 0 ∧ z = 0) := by
    rintro ⟨rfl, rfl, rfl⟩
    have z0 : ((0 : Int) : Rat) = 0 := rfl
    rw [z0] at lo
    have := Rat.mul_pos (a := 1073741824 - e) (b := 1073741824 - e) (by grind) (by grind)
    grind
  obtain ⟨c, d, hp, hv, ⟨e1, e2⟩, ⟨n1, n2⟩, u1⟩ := posn_dir x y z (ib x (by grind) (by grind)) (ib y (by grind) (by grind)) (ib z (by grind) (by grind)) hne (1073741824 + e) (by grind) nv.2
  refine ⟨c, d, hp, hv, ?_⟩
  have hid : cE d x y * cE d x y + cN c d x y z * cN c d x y z + cU c d x y z * cU c d x y z = (x : Rat) * x + (y : Rat) * y + (z : Rat) * z := by
    have h1 := CS_unit c
    have h2 := CS_unit d
    have k1 : cH d x y * cH d x y + cE d x y * cE d x y = (x : Rat) * x + (y : Rat) * y := dir_len _ _ _ _ h2
    have k2 : cU c d x y z * cU c d x y z + cN c d x y z * cN c d x y z = cH d x y * cH d x y + (z : Rat) * z := by
      have := dir_len (cH d x y) (z : Rat) _ _ h1
      unfold cU cN; exact this
    grind
  have q1 := mulab (a := cE d x y) (b := cE d x y) (A := 55) (B := 55) (by grind) (by grind) (by grind) (by grind)
  have q2 := mulab (a := cN c d x y z) (b := cN c d x y z) (A := 56) (B := 56) (by grind) (by grind) (by grind) (by grind)
  have uu : -(e + 1) ≤ cU c d x y z - 1073741824 ∧ cU c d x y z - 1073741824 ≤ e + 1 := by
    have hi := nv.2
    constructor
    · refine Classical.byContradiction fun hc => ?_
      clear nx nv nk cx cy cz ib hne hp hv e1 e2 n1 n2 f hi hu hn
      generalize cE d x y * cE d x y = T1 at *
      generalize cN c d x y z * cN c d x y z = T2 at *
      generalize (x : Rat) * x + (y : Rat) * y + (z : Rat) * z = T3 at *
      generalize cU c d x y z = u at *
      have m1 := Rat.mul_nonneg (a := 1073741824 - (e + 1) - u) (b := u + 1) (by grind) (by grind)
      have m2 := Rat.mul_nonneg (a := 1073741824 - (e + 1) - u) (b := 1073741824 - (e + 2)) (by grind) (by grind)
      grind
    · have := le_of_sq (a := cU c d x y z) (b := 1073741824 + e) (by grind) (by have := rsq (cE d x y); have := rsq (cN c d x y z); grind)
      grind
  -- the vector less its direction
  have fr : nrm ((x : Rat) - 1073741824 * (CC c * CC d)) ((y : Rat) - 1073741824 * (CC c * SS d)) ((z : Rat) - 1073741824 * SS c) r := by
    have h1 := CS_unit c
    have h2 := CS_unit d
    have a3 : nrm (cE d x y * -SS d + cN c d x y z * -(SS c * CC d) + (cU c d x y z - 1073741824) * (CC c * CC d)) (cE d x y * CC d + cN c d x y z * -(SS c * SS d) + (cU c d x y z - 1073741824) * (CC c * SS d)) (cE d x y * 0 + cN c d x y z * CC c + (cU c d x y z - 1073741824) * SS c) r := ⟨r0, by
      have q3 := mulab (a := cU c d x y z - 1073741824) (b := cU c d x y z - 1073741824) uu.1 uu.2 uu.1 uu.2
      clear hid e1 e2 n1 n2 u1 hp hv hne lo ib cx cy cz nk nv nx hu hn f
      generalize cE d x y = A at *
      generalize cN c d x y z = B at *
      generalize cU c d x y z - 1073741824 = K at *
      have e3 : (A * -SS d + B * -(SS c * CC d) + K * (CC c * CC d)) * (A * -SS d + B * -(SS c * CC d) + K * (CC c * CC d)) + (A * CC d + B * -(SS c * SS d) + K * (CC c * SS d)) * (A * CC d + B * -(SS c * SS d) + K * (CC c * SS d)) + (A * 0 + B * CC c + K * SS c) * (A * 0 + B * CC c + K * SS c) = A * A * (CC d * CC d + SS d * SS d) + B * B * (SS c * SS c * (CC d * CC d + SS d * SS d) + CC c * CC c) + K * K * (CC c * CC c * (CC d * CC d + SS d * SS d) + SS c * SS c) + 2 * (B * K * (CC c * SS c)) * (1 - (CC d * CC d + SS d * SS d)) := by grind
      rw [e3, h2]
      have e4 : A * A * 1 + B * B * (SS c * SS c * 1 + CC c * CC c) + K * K * (CC c * CC c * 1 + SS c * SS c) + 2 * (B * K * (CC c * SS c)) * (1 - 1) = A * A + B * B * (CC c * CC c + SS c * SS c) + K * K * (CC c * CC c + SS c * SS c) := by grind
      rw [e4, h1]
      clear e3 e4 h1 h2
      generalize A * A = T1 at *
      generalize B * B = T2 at *
      generalize K * K = T3 at *
      generalize (e + 1) * (e + 1) = T4 at *
      grind⟩
    have ex : (x : Rat) = CC d * cH d x y - SS d * cE d x y := by
      unfold cH cE
      have : CC d * ((x : Rat) * CC d + (y : Rat) * SS d) - SS d * ((y : Rat) * CC d - (x : Rat) * SS d) = (x : Rat) * (CC d * CC d + SS d * SS d) := by grind
      rw [this, h2]; grind
    have ey : (y : Rat) = SS d * cH d x y + CC d * cE d x y := by
      unfold cH cE
      have : SS d * ((x : Rat) * CC d + (y : Rat) * SS d) + CC d * ((y : Rat) * CC d - (x : Rat) * SS d) = (y : Rat) * (CC d * CC d + SS d * SS d) := by grind
      rw [this, h2]; grind
    have eh : cH d x y = CC c * cU c d x y z - SS c * cN c d x y z := by
      unfold cU cN
      have : CC c * (cH d x y * CC c + (z : Rat) * SS c) - SS c * ((z : Rat) * CC c - cH d x y * SS c) = cH d x y * (CC c * CC c + SS c * SS c) := by grind
      rw [this, h1]; grind
    have ez : (z : Rat) = SS c * cU c d x y z + CC c * cN c d x y z := by
      unfold cU cN
      have : SS c * (cH d x y * CC c + (z : Rat) * SS c) + CC c * ((z : Rat) * CC c - cH d x y * SS c) = (z : Rat) * (CC c * CC c + SS c * SS c) := by grind
      rw [this, h1]; grind
    have gx : cE d x y * -SS d + cN c d x y z * -(SS c * CC d) + (cU c d x y z - 1073741824) * (CC c * CC d) = (x : Rat) - 1073741824 * (CC c * CC d) := by
      have : (x : Rat) - 1073741824 * (CC c * CC d) = CC d * (CC c * cU c d x y z - SS c * cN c d x y z) - SS d * cE d x y - 1073741824 * (CC c * CC d) := by rw [← eh, ← ex]
      rw [this]; grind
    have gy : cE d x y * CC d + cN c d x y z * -(SS c * SS d) + (cU c d x y z - 1073741824) * (CC c * SS d) = (y : Rat) - 1073741824 * (CC c * SS d) := by
      have : (y : Rat) - 1073741824 * (CC c * SS d) = SS d * (CC c * cU c d x y z - SS c * cN c d x y z) + CC d * cE d x y - 1073741824 * (CC c * SS d) := by rw [← eh, ← ey]
      rw [this]; grind
    have gz : cE d x y * 0 + cN c d x y z * CC c + (cU c d x y z - 1073741824) * SS c = (z : Rat) - 1073741824 * SS c := by
      have : (z : Rat) - 1073741824 * SS c = SS c * cU c d x y z + CC c * cN c d x y z - 1073741824 * SS c := by rw [← ez]
      rw [this]; grind
    rw [gx, gy, gz] at a3
    exact a3
  have fin := nrm_add (of_nrm hv) (nrm_add (nrm_neg fr) hn)
  have g : ∀ Q U x X : Rat, Q - 1073741824 * U + (-(x - 1073741824 * U) + (x - 1073741824 * X)) = Q - 1073741824 * X := fun Q U x X => by grind
  rw [g, g, g] at fin
  exact nrm_mono fin (by grind)
end Go.Proofs.Ytmlacekgmdlfjaa
