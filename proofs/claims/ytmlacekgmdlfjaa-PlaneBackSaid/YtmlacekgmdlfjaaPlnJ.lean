/- A position due north of the origin (plain). -/
import Derived.Test.YtmlacekgmdlfjaaPlnG
import Derived.Test.YtmlacekgmdlfjaaTan
namespace Go.Proofs.Ytmlacekgmdlfjaa
open Go.RowKit Go.Joins Fdk
set_option linter.unusedVariables false
theorem north_comp (a b s : Int) : cE b (xX a b (0 % 129600000) s) (xY a b (0 % 129600000) s) = 0 ∧ cN a b (xX a b (0 % 129600000) s) (xY a b (0 % 129600000) s) (xZ a b (0 % 129600000) s) = SS s ∧ cU a b (xX a b (0 % 129600000) s) (xY a b (0 % 129600000) s) (xZ a b (0 % 129600000) s) = CC s := by
  have h1 : CC 0 = 1 := by decide +kernel
  have h2 : SS 0 = 0 := by decide +kernel
  rw [show (0 : Int) % 129600000 = 0 from rfl]
  have ha := CS_unit a
  have hb := CS_unit b
  have eX : xX a b 0 s = CC b * (CC a * CC s - SS a * SS s) := by unfold xX dX; rw [h1, h2]; grind
  have eY : xY a b 0 s = SS b * (CC a * CC s - SS a * SS s) := by unfold xY dY; rw [h1, h2]; grind
  have eZ : xZ a b 0 s = SS a * CC s + CC a * SS s := by unfold xZ dZ; rw [h1, h2]; grind
  have eH : cH b (xX a b 0 s) (xY a b 0 s) = CC a * CC s - SS a * SS s := by
    unfold cH
    rw [eX, eY]
    have : CC b * (CC a * CC s - SS a * SS s) * CC b + SS b * (CC a * CC s - SS a * SS s) * SS b = (CC a * CC s - SS a * SS s) * (CC b * CC b + SS b * SS b) := by grind
    rw [this, hb]; grind
  refine ⟨?_, ?_, ?_⟩
  · unfold cE; rw [eX, eY]; grind
  · unfold cN; rw [eH, eZ]
    have : (SS a * CC s + CC a * SS s) * CC a - (CC a * CC s - SS a * SS s) * SS a = SS s * (CC a * CC a + SS a * SS a) := by grind
    rw [this, ha]; grind
  · unfold cU; rw [eH, eZ]
    have : (CC a * CC s - SS a * SS s) * CC a + (SS a * CC s + CC a * SS s) * SS a = CC s * (CC a * CC a + SS a * SS a) := by grind
    rw [this, ha]; grind
theorem meridian_plain {a b s : Int} (ho : org a b = true) (s0 : 0 ≤ s) (s1 : s ≤ 1000000) : ∃ c d u v, alv a b 0 s = (c, d, 0) ∧ tov a b c d = (u, v, 0) ∧ (-2 ≤ u ∧ u ≤ 2) ∧ s - 8 ≤ v ∧ v ≤ s * 49 / 48 + 8 := by
  have hv := org_vd ho
  obtain ⟨c, d, hal, hw, hn⟩ := near_along a b 0 s hv ⟨s0, by omega⟩
  obtain ⟨l1, l2, l3⟩ := loc_near hv hw
  obtain ⟨c1, c2, c3⟩ := comp_b a b hn
  have q1 := comp_sub a b (rd (cn c * cn d) : Rat) (rd (cn c * sn d) : Rat) (sn c : Rat) (xX a b (0 % 129600000) s) (xY a b (0 % 129600000) s) (xZ a b (0 % 129600000) s) 1073741824
  have q3 := north_comp a b s
  rw [q1.1, q3.1] at c1
  rw [q1.2.1, q3.2.1] at c2
  rw [q1.2.2, q3.2.2] at c3
  clear q1 q3 hn
  -- the sine and the cosine of the distance
  obtain ⟨_, n1, n2⟩ := nr_all (a := s) (by omega) (by omega)
  have cm := rle2 (cn_mono (a := s) (b := 1000000) s0 s1 (by omega))
  have cv : (1072400000 : Int) ≤ cn 1000000 := by decide +kernel
  have cv' := rle2 cv
  have ce : ((1072400000 : Int) : Rat) = 1072400000 := rfl
  rw [ce] at cv'
  have kt := kap_tan s0 (by omega)
  have ks := kap_sin s0 (by omega)
  have sp := SS_nn s0 (by omega)
  have cc := (CS_1 s).1
  have hs0 := rle2 s0
  have hs1 := rle2 s1
  have z0 : ((0 : Int) : Rat) = 0 := rfl
  have z1 : ((1000000 : Int) : Rat) = 1000000 := rfl
  rw [z0] at hs0
  rw [z1] at hs1
  have zlo : 1072399000 ≤ (lz a b c d : Rat) ∧ (lz a b c d : Rat) ≤ 1073742000 := by constructor <;> grind
  have zi : (1072399000 : Int) ≤ lz a b c d := ile (by rw [show ((1072399000 : Int) : Rat) = 1072399000 from rfl]; exact zlo.1)
  have qx := qnear_r (20626481 * lx b c d) (lz a b c d) (by omega)
  have qy := qnear_r (20626481 * ly a b c d) (lz a b c d) (by omega)
  simp only [Rat.intCast_mul, Rat.intCast_ofNat] at qx qy
  have hx : -122 ≤ (lx b c d : Rat) ∧ (lx b c d : Rat) ≤ 122 := by constructor <;> grind
  have hy : -125 ≤ (ly a b c d : Rat) - 1073741824 * SS s ∧ (ly a b c d : Rat) - 1073741824 * SS s ≤ 125 := by constructor <;> grind
  have hz : -125 ≤ (lz a b c d : Rat) - 1073741824 * CC s ∧ (lz a b c d : Rat) - 1073741824 * CC s ≤ 125 := by constructor <;> grind
  clear c1 c2 c3 l1 l2 l3 n1 n2 cm cv'
  have ub : -2 ≤ qnear (20626481 * lx b c d) (lz a b c d) ∧ qnear (20626481 * lx b c d) (lz a b c d) ≤ 2 := by
    constructor
    · refine Classical.byContradiction fun hc => ?_
      have h := rle2 (show qnear (20626481 * lx b c d) (lz a b c d) ≤ -3 by omega)
      have e : ((-3 : Int) : Rat) = -3 := rfl
      rw [e] at h
      generalize (qnear (20626481 * lx b c d) (lz a b c d) : Rat) = X at *
      have := Rat.mul_nonneg (a := -3 - X) (b := (lz a b c d : Rat)) (by grind) (by grind)
      grind
    · refine Classical.byContradiction fun hc => ?_
      have h := rle2 (show 3 ≤ qnear (20626481 * lx b c d) (lz a b c d) by omega)
      have e : ((3 : Int) : Rat) = 3 := rfl
      rw [e] at h
      generalize (qnear (20626481 * lx b c d) (lz a b c d) : Rat) = X at *
      have := Rat.mul_nonneg (a := X - 3) (b := (lz a b c d : Rat)) (by grind) (by grind)
      grind
  have vb : s - 8 ≤ qnear (20626481 * ly a b c d) (lz a b c d) ∧ qnear (20626481 * ly a b c d) (lz a b c d) ≤ s * 49 / 48 + 8 := by
    constructor
    · refine Classical.byContradiction fun hc => ?_
      have h := rle2 (show qnear (20626481 * ly a b c d) (lz a b c d) + 9 ≤ s by omega)
      have e : ((9 : Int) : Rat) = 9 := rfl
      rw [Rat.intCast_add, e] at h
      generalize (qnear (20626481 * ly a b c d) (lz a b c d) : Rat) = Y at *
      have m1 := Rat.mul_nonneg (a := (s : Rat) - 9 - Y) (b := (lz a b c d : Rat)) (by grind) (by grind)
      have m2 := mulab (a := (s : Rat) - 17/2) (b := (lz a b c d : Rat) - 1073741824 * CC s) (A := 1000009) (B := 125) (by grind) (by grind) hz.1 hz.2
      have m3 : (s : Rat) * (1073741824 * CC s) ≤ 1073741824 * (20626481 * SS s) := by grind
      have m4 : ((s : Rat) - 17/2) * ((lz a b c d : Rat) - 1073741824 * CC s) = (s : Rat) * (lz a b c d : Rat) - 17/2 * (lz a b c d : Rat) - (s : Rat) * (1073741824 * CC s) + 17/2 * (1073741824 * CC s) := by grind
      rw [m4] at m2
      have m5 : ((s : Rat) - 9 - Y) * (lz a b c d : Rat) = (s : Rat) * (lz a b c d : Rat) - 9 * (lz a b c d : Rat) - Y * (lz a b c d : Rat) := by grind
      rw [m5] at m1
      clear kt ks m4 m5
      generalize (s : Rat) * (lz a b c d : Rat) = T1 at *
      generalize Y * (lz a b c d : Rat) = T2 at *
      generalize (s : Rat) * (1073741824 * CC s) = T3 at *
      generalize (lz a b c d : Rat) = z at *
      generalize CC s = C at *
      generalize SS s = S at *
      grind
    · refine Classical.byContradiction fun hc => ?_
      have h := rle2 (show 49 * s + 385 ≤ 48 * qnear (20626481 * ly a b c d) (lz a b c d) by omega)
      simp only [Rat.intCast_mul, Rat.intCast_add, Rat.intCast_ofNat] at h
      generalize (qnear (20626481 * ly a b c d) (lz a b c d) : Rat) = Y at *
      have m1 := Rat.mul_nonneg (a := 48 * Y - 49 * (s : Rat) - 385) (b := (lz a b c d : Rat)) (by grind) (by grind)
      have m2 := Rat.mul_nonneg (a := 49 * (s : Rat) + 361) (b := (lz a b c d : Rat) - 1072399000) (by grind) (by grind)
      have m4 : (48 * Y - 49 * (s : Rat) - 385) * (lz a b c d : Rat) = 48 * (Y * (lz a b c d : Rat)) - 49 * ((s : Rat) * (lz a b c d : Rat)) - 385 * (lz a b c d : Rat) := by grind
      have m5 : (49 * (s : Rat) + 361) * ((lz a b c d : Rat) - 1072399000) = 49 * ((s : Rat) * (lz a b c d : Rat)) + 361 * (lz a b c d : Rat) - 1072399000 * 49 * (s : Rat) - 1072399000 * 361 := by grind
      rw [m4] at m1
      rw [m5] at m2
      clear kt m4 m5
      generalize (s : Rat) * (lz a b c d : Rat) = T1 at *
      generalize Y * (lz a b c d : Rat) = T2 at *
      generalize (lz a b c d : Rat) = z at *
      generalize CC s = C at *
      generalize SS s = S at *
      generalize (s : Rat) = t at *
      grind
  refine ⟨c, d, qnear (20626481 * lx b c d) (lz a b c d), qnear (20626481 * ly a b c d) (lz a b c d), hal, ?_, ub, vb⟩
  unfold tov
  rw [if_pos (show (org a b && vd c d) = true by rw [ho, hw]; rfl), if_neg (by omega)]
  refine if_pos ?_
  simp only [pvd, Bool.and_eq_true, decide_eq_true_eq]
  omega
end Go.Proofs.Ytmlacekgmdlfjaa
