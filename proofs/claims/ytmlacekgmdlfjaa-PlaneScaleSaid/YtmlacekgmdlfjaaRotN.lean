/- Distances against exact angles. -/
import Derived.Test.YtmlacekgmdlfjaaRotV
namespace Go.Proofs.Ytmlacekgmdlfjaa
open Go.RowKit Go.Joins Fdk
set_option linter.unusedVariables false
/-- the length is at most r. -/
def nrm (x y z r : Rat) : Prop := 0 ≤ r ∧ x * x + y * y + z * z ≤ r * r
theorem nrm_dot {x y z r p q s t : Rat} (h : nrm x y z r) (k : nrm p q s t) : -(r * t) ≤ x * p + y * q + z * s ∧ x * p + y * q + z * s ≤ r * t := by
  obtain ⟨r0, h⟩ := h
  obtain ⟨t0, k⟩ := k
  refine sq_le_r (Rat.mul_nonneg r0 t0) ?_
  have e : (x * p + y * q + z * s) * (x * p + y * q + z * s) = (x * x + y * y + z * z) * (p * p + q * q + s * s) - ((y * s - z * q) * (y * s - z * q) + (z * p - x * s) * (z * p - x * s) + (x * q - y * p) * (x * q - y * p)) := by grind
  have a := rsq (y * s - z * q)
  have b := rsq (z * p - x * s)
  have c := rsq (x * q - y * p)
  have n1 : 0 ≤ x * x + y * y + z * z := by have := rsq x; have := rsq y; have := rsq z; grind
  have m1 := Rat.mul_nonneg n1 (b := t * t - (p * p + q * q + s * s)) (by grind)
  have m2 := Rat.mul_nonneg (rsq t) (b := r * r - (x * x + y * y + z * z)) (by grind)
  have e2 : r * t * (r * t) = r * r * (t * t) := by grind
  rw [e, e2]
  generalize (y * s - z * q) * (y * s - z * q) = A at *
  generalize (z * p - x * s) * (z * p - x * s) = B at *
  generalize (x * q - y * p) * (x * q - y * p) = C at *
  generalize x * x + y * y + z * z = N at *
  generalize p * p + q * q + s * s = M at *
  generalize r * r = R at *
  generalize t * t = T at *
  grind
theorem nrm_add {x y z r p q s t : Rat} (h : nrm x y z r) (k : nrm p q s t) : nrm (x + p) (y + q) (z + s) (r + t) := by
  have d := nrm_dot h k
  obtain ⟨r0, h⟩ := h
  obtain ⟨t0, k⟩ := k
  exact ⟨by grind, by grind⟩
theorem nrm_neg {x y z r : Rat} (h : nrm x y z r) : nrm (-x) (-y) (-z) r := ⟨h.1, by have := h.2; grind⟩
theorem nrm_mono {x y z r t : Rat} (h : nrm x y z r) (k : r ≤ t) : nrm x y z t := by
  obtain ⟨r0, h⟩ := h
  refine ⟨by grind, ?_⟩
  have := Rat.mul_nonneg (a := t - r) (b := t + r) (by grind) (by grind)
  grind
theorem nrm_smul {x y z r : Rat} (h : nrm x y z r) {k : Rat} (k0 : 0 ≤ k) : nrm (k * x) (k * y) (k * z) (k * r) := by
  refine ⟨Rat.mul_nonneg k0 h.1, ?_⟩
  have := Rat.mul_nonneg (rsq k) (b := r * r - (x * x + y * y + z * z)) (by have := h.2; grind)
  grind
theorem nrm_cross {x y z r p q s t : Rat} (h : nrm x y z r) (k : nrm p q s t) : nrm (y * s - z * q) (z * p - x * s) (x * q - y * p) (r * t) := by
  obtain ⟨r0, h⟩ := h
  obtain ⟨t0, k⟩ := k
  refine ⟨Rat.mul_nonneg r0 t0, ?_⟩
  have e : (y * s - z * q) * (y * s - z * q) + (z * p - x * s) * (z * p - x * s) + (x * q - y * p) * (x * q - y * p) = (x * x + y * y + z * z) * (p * p + q * q + s * s) - (x * p + y * q + z * s) * (x * p + y * q + z * s) := by grind
  have a := rsq (x * p + y * q + z * s)
  have n1 : 0 ≤ x * x + y * y + z * z := by have := rsq x; have := rsq y; have := rsq z; grind
  have m1 := Rat.mul_nonneg n1 (b := t * t - (p * p + q * q + s * s)) (by grind)
  have m2 := Rat.mul_nonneg (rsq t) (b := r * r - (x * x + y * y + z * z)) (by grind)
  have e2 : r * t * (r * t) = r * r * (t * t) := by grind
  rw [e, e2]
  generalize (x * p + y * q + z * s) * (x * p + y * q + z * s) = A at *
  generalize x * x + y * y + z * z = N at *
  generalize p * p + q * q + s * s = M at *
  generalize r * r = R at *
  generalize t * t = T at *
  grind
theorem le_of_sq {a b : Rat} (h0 : 0 ≤ b) (h : a * a ≤ b * b) : a ≤ b := (sq_le_r h0 h).2
/-- angles out of a small sine. -/
theorem small_ang {d k : Int} (hd : -64800000 ≤ d ∧ d ≤ 64800000) (k0 : 0 ≤ k) (k1 : k < 32400000) (M : Rat) (hM : M < (sn (k + 1) : Rat) - 2) (h1 : -M ≤ 1073741824 * SS d) (h2 : 1073741824 * SS d ≤ M) (hc : 2 < 1073741824 * CC d) : -k ≤ d ∧ d ≤ k := by
  have pos : ∀ d : Int, 0 ≤ d → d ≤ 64800000 → 1073741824 * SS d ≤ M → 2 < 1073741824 * CC d → d ≤ k := fun d d0 d1 h2 hc => by
    refine Classical.byContradiction fun hk => ?_
    obtain ⟨⟨a1, a2⟩, a3, a4⟩ := nr_all (a := d) (by omega) (by omega)
    by_cases hq : d ≤ 32400000
    · have hm := rle2 (sn_mono (a := k + 1) (b := d) (by omega) (by omega) (by omega))
      grind
    · have hm := rle2 (cn_mono (a := 32400000) (b := d) (by omega) (by omega) (by omega))
      have e : cn 32400000 = 0 := by rw [show (32400000 : Int) = 0 + 32400000 from rfl, cn_plus, sn_0]; rfl
      rw [e] at hm
      have z : ((0 : Int) : Rat) = 0 := rfl
      rw [z] at hm
      grind
  by_cases h : 0 ≤ d
  · exact ⟨by omega, pos d h hd.2 h2 hc⟩
  · have := pos (-d) (by omega) (by omega) (by rw [SS_neg]; grind) (by rw [CC_neg]; exact hc)
    omega
/-- the arc tangent of numbers near the sine and the cosine of an angle. -/
theorem ang_near (y x δ k : Int) (hδ : 0 ≤ δ ∧ δ ≤ 64800000) (hy : 0 ≤ y) (k0 : 0 ≤ k) (k1 : k < 32400000) (e1 e2 : Rat) (b1 : e1 ≤ 1000000) (b2 : e2 ≤ 1000000)
    (x0 : -e1 ≤ (x : Rat) - 1073741824 * CC δ) (x1 : (x : Rat) - 1073741824 * CC δ ≤ e1) (y0 : -e2 ≤ (y : Rat) - 1073741824 * SS δ) (y1 : (y : Rat) - 1073741824 * SS δ ≤ e2) (hM : 551/10 + e1 + e2 < (sn (k + 1) : Rat) - 2) : -k ≤ at2 y x - δ ∧ at2 y x - δ ≤ k := by
  have E1 : 0 ≤ e1 := by grind
  have E2 : 0 ≤ e2 := by grind
  have hb := at2_b y x
  have ht : at2 y x ≤ 64800000 := by
    have := atq_b y x
    unfold at2
    repeat' split
    all_goals omega
  have hd := at2_dir y x
  have hl := dir_len (x : Rat) (y : Rat) _ _ (CS_unit (at2 y x))
  have hs := CS_sub (at2 y x) δ
  have ⟨⟨c1, c2⟩, s1, s2⟩ := CS_1 (at2 y x)
  have ⟨⟨c3, c4⟩, s3, s4⟩ := CS_1 δ
  have hu := CS_unit δ
  have ix := iabs_sq x
  have iy := iabs_sq y
  have ix0 := iabs_le x
  have iy0 := iabs_le y
  generalize at2 y x = t at *
  have k1' := mulab (a := (y : Rat) - 1073741824 * SS δ) (b := CC t) (A := e2) (B := 1) y0 y1 c1 c2
  have k2 := mulab (a := (x : Rat) - 1073741824 * CC δ) (b := SS t) (A := e1) (B := 1) x0 x1 s1 s2
  have k3 := mulab (a := (x : Rat) - 1073741824 * CC δ) (b := CC t) (A := e1) (B := 1) x0 x1 c1 c2
  have k4 := mulab (a := (y : Rat) - 1073741824 * SS δ) (b := SS t) (A := e2) (B := 1) y0 y1 s1 s2
  -- the length of (x, y)
  have n1 : nrm (1073741824 * CC δ) (1073741824 * SS δ) 0 1073741824 := ⟨by grind, by
    have : 1073741824 * CC δ * (1073741824 * CC δ) + 1073741824 * SS δ * (1073741824 * SS δ) + 0 * 0 = 1152921504606846976 * (CC δ * CC δ + SS δ * SS δ) := by grind
    rw [this, hu]; grind⟩
  have n2 : nrm ((x : Rat) - 1073741824 * CC δ) ((y : Rat) - 1073741824 * SS δ) 0 (e1 + e2) := ⟨by grind, by
    have p1 := mulab (a := (x : Rat) - 1073741824 * CC δ) (b := (x : Rat) - 1073741824 * CC δ) x0 x1 x0 x1
    have p2 := mulab (a := (y : Rat) - 1073741824 * SS δ) (b := (y : Rat) - 1073741824 * SS δ) y0 y1 y0 y1
    have p3 := Rat.mul_nonneg E1 E2
    grind⟩
  have n3 := nrm_add n1 n2
  have e3 : 1073741824 * CC δ + ((x : Rat) - 1073741824 * CC δ) = (x : Rat) := by grind
  have e4 : 1073741824 * SS δ + ((y : Rat) - 1073741824 * SS δ) = (y : Rat) := by grind
  rw [e3, e4] at n3
  have n4 := nrm_add (nrm_neg n2) (show nrm (x : Rat) (y : Rat) 0 ((iabs x : Rat) + iabs y) from ⟨by grind, by have := Rat.mul_nonneg ix0 iy0; grind⟩)
  have e5 : -((x : Rat) - 1073741824 * CC δ) + (x : Rat) = 1073741824 * CC δ := by grind
  have e6 : -((y : Rat) - 1073741824 * SS δ) + (y : Rat) = 1073741824 * SS δ := by grind
  have e7 : (-(0 : Rat)) + 0 = 0 := by grind
  rw [e5, e6, e7] at n4
  have L1 : 1073741824 ≤ e1 + e2 + ((iabs x : Rat) + iabs y) := by
    refine le_of_sq n4.1 ?_
    have := n4.2
    have e8 : 1073741824 * CC δ * (1073741824 * CC δ) + 1073741824 * SS δ * (1073741824 * SS δ) + 0 * 0 = 1152921504606846976 * (CC δ * CC δ + SS δ * SS δ) := by grind
    rw [e8, hu] at this
    grind
  have R0 : 0 ≤ 1073741824 + (e1 + e2) := by grind
  have n5 : (x : Rat) * x + (y : Rat) * y ≤ (1073741824 + (e1 + e2)) * (1073741824 + (e1 + e2)) := by have := n3.2; grind
  have L2 := lsum (X := (iabs x : Rat)) (Y := (iabs y : Rat)) R0 (by rw [ix, iy]; exact n5)
  have eS : 1073741824 * SS (t - δ) = -((y : Rat) * CC t - (x : Rat) * SS t) + ((y : Rat) - 1073741824 * SS δ) * CC t - ((x : Rat) - 1073741824 * CC δ) * SS t := by rw [hs.2]; grind
  have eC : 1073741824 * CC (t - δ) = ((x : Rat) * CC t + (y : Rat) * SS t) - ((x : Rat) - 1073741824 * CC δ) * CC t - ((y : Rat) - 1073741824 * SS δ) * SS t := by rw [hs.1]; grind
  obtain ⟨⟨d1, d2⟩, d3⟩ := hd
  have hp : (x : Rat) * CC t + (y : Rat) * SS t ≤ 1073741824 + (e1 + e2) := by
    refine le_of_sq R0 ?_
    have := rsq ((y : Rat) * CC t - (x : Rat) * SS t)
    grind
  generalize ((y : Rat) - 1073741824 * SS δ) * CC t = T1 at *
  generalize ((x : Rat) - 1073741824 * CC δ) * SS t = T2 at *
  generalize ((x : Rat) - 1073741824 * CC δ) * CC t = T3 at *
  generalize ((y : Rat) - 1073741824 * SS δ) * SS t = T4 at *
  generalize (y : Rat) * CC t - (x : Rat) * SS t = q at *
  generalize (x : Rat) * CC t + (y : Rat) * SS t = p at *
  generalize (iabs x : Rat) + iabs y = L at *
  clear n1 n2 n3 n4 n5 e3 e4 e5 e6 e7 hs hl hu ix iy
  refine small_ang (d := t - δ) (by omega) k0 k1 (551/10 + e1 + e2) hM ?_ ?_ ?_
  · rw [eS]; grind
  · rw [eS]; grind
  · rw [eC]; grind
/-- the square root of the sum of the squares of rounded sizes, against a length. -/
theorem csum_near {W0 W1 W2 : Int} {s e : Rat} (m : Int) (m0 : 0 ≤ m) (h1 : m * m ≤ csum W0 W1 W2) (h2 : csum W0 W1 W2 < (m + 1) * (m + 1)) (s0 : 0 ≤ s) (c0 c1 c2 : Rat) (hc : c0 * c0 + c1 * c1 + c2 * c2 = s * s)
    (hn : nrm ((W0 : Rat) / 1073741824 - c0) ((W1 : Rat) / 1073741824 - c1) ((W2 : Rat) / 1073741824 - c2) e) : -(e + 19/10) ≤ (m : Rat) - s ∧ (m : Rat) - s ≤ e + 19/10 := by
  have ab : ∀ W : Int, ∃ g : Rat, (g = 1 ∨ g = -1) ∧ -(1/2) ≤ g * (rd (iabs W) : Rat) - (W : Rat) / 1073741824 ∧ g * (rd (iabs W) : Rat) - (W : Rat) / 1073741824 ≤ 1/2 := fun W => by
    have r := rd_r (iabs W)
    by_cases h : W < 0
    · refine ⟨-1, .inr rfl, ?_⟩
      have e : (iabs W : Rat) = -(W : Rat) := by rw [← rneg]; congr 1; unfold iabs; rw [if_pos h]
      rw [e] at r
      constructor <;> grind
    · refine ⟨1, .inl rfl, ?_⟩
      have e : (iabs W : Rat) = (W : Rat) := by congr 1; unfold iabs; rw [if_neg h]
      rw [e] at r
      constructor <;> grind
  obtain ⟨g0, hg0, a0, b0⟩ := ab W0
  obtain ⟨g1, hg1, a1, b1⟩ := ab W1
  obtain ⟨g2, hg2, a2, b2⟩ := ab W2
  have q : ∀ g r : Rat, (g = 1 ∨ g = -1) → g * r * (g * r) = r * r := fun g r h => by rcases h with rfl | rfl <;> grind
  have r1 := rle2 h1
  have r2 := rle2 (Int.le_of_lt h2)
  unfold csum at r1 r2
  simp only [Rat.intCast_mul, Rat.intCast_add, Rat.intCast_ofNat] at r1 r2
  have M0 : (0 : Rat) ≤ m := by have := rle2 m0; simpa using this
  have s0' := q g0 (rd (iabs W0) : Rat) hg0
  have s1' := q g1 (rd (iabs W1) : Rat) hg1
  have s2' := q g2 (rd (iabs W2) : Rat) hg2
  generalize g0 * (rd (iabs W0) : Rat) = R0 at *
  generalize g1 * (rd (iabs W1) : Rat) = R1 at *
  generalize g2 * (rd (iabs W2) : Rat) = R2 at *
  have nr : nrm R0 R1 R2 ((m : Rat) + 1) := ⟨by grind, by grind⟩
  have hd : nrm (R0 - (W0 : Rat) / 1073741824) (R1 - (W1 : Rat) / 1073741824) (R2 - (W2 : Rat) / 1073741824) (9/10) := ⟨by grind, by
    have p0 := mulab a0 b0 a0 b0
    have p1 := mulab a1 b1 a1 b1
    have p2 := mulab a2 b2 a2 b2
    grind⟩
  have hr := nrm_add hd hn
  have hs : nrm c0 c1 c2 s := ⟨s0, by grind⟩
  constructor
  · -- s at most m + 1 + 9/10 + e
    have h3 := nrm_add nr (nrm_neg hr)
    have k : s ≤ (m : Rat) + 1 + (9/10 + e) := by
      refine le_of_sq h3.1 ?_
      have := h3.2
      have e0 : R0 + -(R0 - (W0 : Rat) / 1073741824 + ((W0 : Rat) / 1073741824 - c0)) = c0 := by grind
      have e1 : R1 + -(R1 - (W1 : Rat) / 1073741824 + ((W1 : Rat) / 1073741824 - c1)) = c1 := by grind
      have e2 : R2 + -(R2 - (W2 : Rat) / 1073741824 + ((W2 : Rat) / 1073741824 - c2)) = c2 := by grind
      rw [e0, e1, e2] at this
      grind
    grind
  · have h3 := nrm_add hs hr
    have k : (m : Rat) ≤ s + (9/10 + e) := by
      refine le_of_sq h3.1 ?_
      have := h3.2
      have e0 : c0 + (R0 - (W0 : Rat) / 1073741824 + ((W0 : Rat) / 1073741824 - c0)) = R0 := by grind
      have e1 : c1 + (R1 - (W1 : Rat) / 1073741824 + ((W1 : Rat) / 1073741824 - c1)) = R1 := by grind
      have e2 : c2 + (R2 - (W2 : Rat) / 1073741824 + ((W2 : Rat) / 1073741824 - c2)) = R2 := by grind
      rw [e0, e1, e2] at this
      grind
    grind
end Go.Proofs.Ytmlacekgmdlfjaa
