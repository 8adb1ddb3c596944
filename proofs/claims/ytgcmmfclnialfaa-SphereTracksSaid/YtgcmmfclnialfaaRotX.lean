/- Signed angles near an exact one. -/
import Derived.Test.YtgcmmfclnialfaaRotW
namespace Go.Proofs.Ytgcmmfclnialfaa
open Go.RowKit Go.Joins Fdk
set_option linter.unusedVariables false
/-- a signed angle out of a small sine, beyond half a turn too. -/
theorem small_ang2 {d k : Int} (hd : -129599400 ≤ d ∧ d ≤ 64800000) (k0 : 0 ≤ k) (k1 : k < 500) (M : Rat) (hM : M < (sn (k + 1) : Rat) - 2) (h1 : -M ≤ 1073741824 * SS d) (h2 : 1073741824 * SS d ≤ M) (hc : 10 < 1073741824 * CC d) : -k ≤ d ∧ d ≤ k := by
  by_cases h : -64800000 ≤ d
  · exact small_ang ⟨h, hd.2⟩ k0 (by omega) M hM h1 h2 (by grind)
  · exfalso
    have ha := CS_add d 129600000
    have ⟨⟨u1, u2⟩, v1, v2⟩ := turn_near
    have ⟨⟨c1, c2⟩, s1, s2⟩ := CS_1 d
    have e1 : -(1/100) ≤ 1073741824 * SS (d + 129600000) - 1073741824 * SS d ∧ 1073741824 * SS (d + 129600000) - 1073741824 * SS d ≤ 1/100 := by
      rw [ha.2]
      generalize CC 129600000 = U at *
      generalize SS 129600000 = V at *
      have a1 := mulab (a := SS d) (b := 1 - U) (A := 1) (B := 3/1000000000000) s1 s2 (by grind) (by grind)
      have a2 := mulab (a := CC d) (b := V) (A := 1) (B := 3/1000000000000) c1 c2 v1 v2
      constructor <;> grind
    have e2 : -(1/100) ≤ 1073741824 * CC (d + 129600000) - 1073741824 * CC d ∧ 1073741824 * CC (d + 129600000) - 1073741824 * CC d ≤ 1/100 := by
      rw [ha.1]
      generalize CC 129600000 = U at *
      generalize SS 129600000 = V at *
      have a1 := mulab (a := CC d) (b := 1 - U) (A := 1) (B := 3/1000000000000) c1 c2 (by grind) (by grind)
      have a2 := mulab (a := SS d) (b := V) (A := 1) (B := 3/1000000000000) s1 s2 v1 v2
      constructor <;> grind
    have hm := rle2 (sn_mono (a := k + 2) (b := 600) (by omega) (by omega) (by omega))
    have hk := rle2 (sn_mono (a := k + 1) (b := 501) (by omega) (by omega) (by omega))
    have h501 : sn 501 ≤ 26100 := by decide +kernel
    have h590 : 30000 ≤ sn 590 := by decide +kernel
    have q1 := rle2 h501
    have q2 := rle2 h590
    have z1 : ((26100 : Int) : Rat) = 26100 := rfl
    have z2 : ((30000 : Int) : Rat) = 30000 := rfl
    rw [z1] at q1
    rw [z2] at q2
    have hb2 : -64800000 ≤ d + 129600000 ∧ d + 129600000 ≤ 64800000 ∧ 600 ≤ d + 129600000 := by omega
    clear ha u1 u2 v1 v2
    generalize d + 129600000 = D at *
    have r := small_ang (d := D) (k := 589) ⟨hb2.1, hb2.2.1⟩ (by omega) (by omega) (M + 1/100) (by show M + 1/100 < ((sn 590 : Int) : Rat) - 2; grind) (by grind) (by grind) (by grind)
    omega
/-- the signed arc tangent of numbers near the sine and the cosine of an angle. -/
theorem ang_near2 (y x δ k : Int) (hδ : 0 ≤ δ ∧ δ ≤ 64799400) (k0 : 0 ≤ k) (k1 : k < 500) (e1 e2 : Rat) (b1 : e1 ≤ 1000000) (b2 : e2 ≤ 1000000)
    (x0 : -e1 ≤ (x : Rat) - 1073741824 * CC δ) (x1 : (x : Rat) - 1073741824 * CC δ ≤ e1) (y0 : -e2 ≤ (y : Rat) - 1073741824 * SS δ) (y1 : (y : Rat) - 1073741824 * SS δ ≤ e2) (hM : 552/10 + e1 + e2 < (sn (k + 1) : Rat) - 2) : -k ≤ adiff 0 (at2 y x) - δ ∧ adiff 0 (at2 y x) - δ ≤ k := by
  have E1 : 0 ≤ e1 := by grind
  have E2 : 0 ≤ e2 := by grind
  have ht := adiff_b 0 (at2 y x)
  have hd := at2s_dir y x (by have := iabs_le x; have := iabs_le y; grind)
  have hl := dir_len (x : Rat) (y : Rat) _ _ (CS_unit (adiff 0 (at2 y x)))
  have hs := CS_sub (adiff 0 (at2 y x)) δ
  have ⟨⟨c1, c2⟩, s1, s2⟩ := CS_1 (adiff 0 (at2 y x))
  have hu := CS_unit δ
  have ix := iabs_sq x
  have iy := iabs_sq y
  have ix0 := iabs_le x
  have iy0 := iabs_le y
  generalize adiff 0 (at2 y x) = t at *
  have k1' := mulab (a := (y : Rat) - 1073741824 * SS δ) (b := CC t) (A := e2) (B := 1) y0 y1 c1 c2
  have k2 := mulab (a := (x : Rat) - 1073741824 * CC δ) (b := SS t) (A := e1) (B := 1) x0 x1 s1 s2
  have k3 := mulab (a := (x : Rat) - 1073741824 * CC δ) (b := CC t) (A := e1) (B := 1) x0 x1 c1 c2
  have k4 := mulab (a := (y : Rat) - 1073741824 * SS δ) (b := SS t) (A := e2) (B := 1) y0 y1 s1 s2
  have n1 : nrm (1073741824 * CC δ) (1073741824 * SS δ) 0 1073741824 := ⟨by grind, by
    have : 1073741824 * CC δ * (1073741824 * CC δ) + 1073741824 * SS δ * (1073741824 * SS δ) + 0 * 0 = 1152921504606846976 * (CC δ * CC δ + SS δ * SS δ) := by grind
    rw [this, hu]; grind⟩
  have n2 : nrm ((x : Rat) - 1073741824 * CC δ) ((y : Rat) - 1073741824 * SS δ) 0 (e1 + e2) := ⟨by grind, by
    have p1 := mulab (a := (x : Rat) - 1073741824 * CC δ) (b := (x : Rat) - 1073741824 * CC δ) x0 x1 x0 x1
    have p2 := mulab (a := (y : Rat) - 1073741824 * SS δ) (b := (y : Rat) - 1073741824 * SS δ) y0 y1 y0 y1
    have p3 := Rat.mul_nonneg E1 E2
    grind⟩
  have n3 := nrm_add n1 n2
  have e3 : 1073741824 * CC δ + ((x : Rat) - 1073741824 * CC δ) = (x : Rat) := by grind
  have e4 : 1073741824 * SS δ + ((y : Rat) - 1073741824 * SS δ) = (y : Rat) := by grind
  rw [e3, e4] at n3
  have n4 := nrm_add (nrm_neg n2) (show nrm (x : Rat) (y : Rat) 0 ((iabs x : Rat) + iabs y) from ⟨by grind, by have := Rat.mul_nonneg ix0 iy0; grind⟩)
  have e5 : -((x : Rat) - 1073741824 * CC δ) + (x : Rat) = 1073741824 * CC δ := by grind
  have e6 : -((y : Rat) - 1073741824 * SS δ) + (y : Rat) = 1073741824 * SS δ := by grind
  have e7 : (-(0 : Rat)) + 0 = 0 := by grind
  rw [e5, e6, e7] at n4
  have L1 : 1073741824 ≤ e1 + e2 + ((iabs x : Rat) + iabs y) := by
    refine le_of_sq n4.1 ?_
    have := n4.2
    have e8 : 1073741824 * CC δ * (1073741824 * CC δ) + 1073741824 * SS δ * (1073741824 * SS δ) + 0 * 0 = 1152921504606846976 * (CC δ * CC δ + SS δ * SS δ) := by grind
    rw [e8, hu] at this
    grind
  have R0 : 0 ≤ 1073741824 + (e1 + e2) := by grind
  have n5 : (x : Rat) * x + (y : Rat) * y ≤ (1073741824 + (e1 + e2)) * (1073741824 + (e1 + e2)) := by have := n3.2; grind
  have L2 := lsum (X := (iabs x : Rat)) (Y := (iabs y : Rat)) R0 (by rw [ix, iy]; exact n5)
  have eS : 1073741824 * SS (t - δ) = -((y : Rat) * CC t - (x : Rat) * SS t) + ((y : Rat) - 1073741824 * SS δ) * CC t - ((x : Rat) - 1073741824 * CC δ) * SS t := by rw [hs.2]; grind
  have eC : 1073741824 * CC (t - δ) = ((x : Rat) * CC t + (y : Rat) * SS t) - ((x : Rat) - 1073741824 * CC δ) * CC t - ((y : Rat) - 1073741824 * SS δ) * SS t := by rw [hs.1]; grind
  obtain ⟨⟨d1, d2⟩, d3⟩ := hd
  have hp : (x : Rat) * CC t + (y : Rat) * SS t ≤ 1073741824 + (e1 + e2) := by
    refine le_of_sq R0 ?_
    have := rsq ((y : Rat) * CC t - (x : Rat) * SS t)
    grind
  generalize ((y : Rat) - 1073741824 * SS δ) * CC t = T1 at *
  generalize ((x : Rat) - 1073741824 * CC δ) * SS t = T2 at *
  generalize ((x : Rat) - 1073741824 * CC δ) * CC t = T3 at *
  generalize ((y : Rat) - 1073741824 * SS δ) * SS t = T4 at *
  generalize (y : Rat) * CC t - (x : Rat) * SS t = q at *
  generalize (x : Rat) * CC t + (y : Rat) * SS t = p at *
  generalize (iabs x : Rat) + iabs y = L at *
  clear n1 n2 n3 n4 n5 e3 e4 e5 e6 e7 hs hl hu ix iy
  refine small_ang2 (d := t - δ) (by omega) k0 k1 (552/10 + e1 + e2) hM ?_ ?_ ?_
  · rw [eS]; grind
  · rw [eS]; grind
  · rw [eC]; grind
end Go.Proofs.Ytgcmmfclnialfaa
