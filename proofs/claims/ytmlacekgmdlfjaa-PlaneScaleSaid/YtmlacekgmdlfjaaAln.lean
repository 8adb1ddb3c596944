/- Positions at rising distances along a great circle: the legs add up. -/
import Derived.Test.YtmlacekgmdlfjaaRotR
import Derived.Test.YtmlacekgmdlfjaaSphK
namespace Go.Proofs.Ytmlacekgmdlfjaa
open Go.RowKit Go.Joins Fdk
set_option linter.unusedVariables false
theorem sn_l7 : sn 7 = 365 := by decide +kernel
theorem sn_l11 : sn 11 = 573 := by decide +kernel
theorem alv_mod2 (a b t s : Int) : alv a b (t % 129600000) s = alv a b t s := by
  unfold alv
  rw [sn_mod, cn_mod]
theorem x_zero2 (a b t : Int) : xX a b t 0 = CC a * CC b ∧ xY a b t 0 = CC a * SS b ∧ xZ a b t 0 = SS a := by
  have h1 : CC 0 = 1 := by decide +kernel
  have h2 : SS 0 = 0 := by decide +kernel
  unfold xX xY xZ
  rw [h1, h2]
  refine ⟨?_, ?_, ?_⟩ <;> grind
/-- a position near the exact one at a distance. -/
def Near9 (a b t s c d : Int) : Prop := vd c d = true ∧ nrm ((rd (cn c * cn d) : Rat) - 1073741824 * xX a b (t % 129600000) s) ((rd (cn c * sn d) : Rat) - 1073741824 * xY a b (t % 129600000) s) ((sn c : Rat) - 1073741824 * xZ a b (t % 129600000) s) (1177/10)
theorem near_start (a b t : Int) (hv : vd a b = true) : Near9 a b t 0 a b := by
  have n0 := of_nrm hv
  have ⟨z0, z1, z2⟩ := x_zero2 a b (t % 129600000)
  rw [← z0, ← z1, ← z2] at n0
  exact ⟨hv, nrm_mono n0 (by grind)⟩
theorem near_along (a b t s : Int) (hv : vd a b = true) (s0 : 0 ≤ s ∧ s ≤ 64800000) : ∃ c d, alv a b t s = (c, d, 0) ∧ Near9 a b t s c d := by
  have hn := along_near (t := t % 129600000) hv (by omega) s0
  obtain ⟨c, d, hp, hc, hq⟩ := posn_near _ _ _ _ _ _ 27 84 (by grind) (by grind) (x_unit a b (t % 129600000) s) hn (by grind)
  refine ⟨c, d, ?_, hc, nrm_mono hq (by grind)⟩
  rw [← alv_mod2]
  unfold alv
  rw [if_pos hv, if_neg (by omega)]
  exact hp
theorem near_leg (a b t s1 s2 c d e f : Int) (h0 : 0 ≤ s1) (h1 : s1 ≤ s2) (h2 : s2 ≤ 64800000) (n1 : Near9 a b t s1 c d) (n2 : Near9 a b t s2 e f) : dstv c d e f = (dv c d e f, 0) ∧ -10 ≤ dv c d e f - (s2 - s1) ∧ dv c d e f - (s2 - s1) ≤ 10 := by
  have k10 : ((sn (10 + 1) : Int) : Rat) = 573 := by rw [show (10 : Int) + 1 = 11 from rfl, sn_l11]; rfl
  have d2 := dist_near c d e f (s2 - s1) 10 n1.1 n2.1 ⟨by omega, by omega⟩ (by omega) (by omega) _ _ _ _ _ _ _ _ (x_unit a b (t % 129600000) s1) (x_unit a b (t % 129600000) s2) (by rw [x_dot]) n1.2 n2.2 (by grind) (by grind) (by rw [k10]; grind)
  exact ⟨d2.1, d2.2.2⟩
theorem near_whole (a b t s e f : Int) (hv : vd a b = true) (h0 : 0 ≤ s) (h2 : s ≤ 64800000) (n2 : Near9 a b t s e f) : dstv a b e f = (dv a b e f, 0) ∧ -6 ≤ dv a b e f - s ∧ dv a b e f - s ≤ 6 := by
  have n0 := of_nrm hv
  have ⟨z0, z1, z2⟩ := x_zero2 a b (t % 129600000)
  rw [← z0, ← z1, ← z2] at n0
  have k6 : ((sn (6 + 1) : Int) : Rat) = 365 := by rw [show (6 : Int) + 1 = 7 from rfl, sn_l7]; rfl
  have d1 := dist_near a b e f s 6 hv n2.1 ⟨h0, by omega⟩ (by omega) (by omega) _ _ _ _ _ _ _ _ (x_unit a b (t % 129600000) 0) (x_unit a b (t % 129600000) s) (by rw [x_dot]; congr 1; omega) n0 n2.2 (by grind) (by grind) (by rw [k6]; grind)
  exact ⟨d1.1, d1.2.2⟩
end Go.Proofs.Ytmlacekgmdlfjaa
