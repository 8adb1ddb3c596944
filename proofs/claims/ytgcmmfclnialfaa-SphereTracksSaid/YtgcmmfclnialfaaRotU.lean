/- Course and distance lead to the other position: the exact direction (third part). -/
import Derived.Test.YtgcmmfclnialfaaRotT
namespace Go.Proofs.Ytgcmmfclnialfaa
open Go.RowKit Go.Joins Fdk
set_option linter.unusedVariables false
def eX (a b t : Int) : Rat := -SS b * CC t + SS a * CC b * SS t
def eY (a b t : Int) : Rat := CC b * CC t + SS a * SS b * SS t
def eZ (a b t : Int) : Rat := -(CC a * SS t)
theorem unit_e2 (a b t : Int) : eX a b t * eX a b t + eY a b t * eY a b t + eZ a b t * eZ a b t = 1 := by
  have h1 := CS_unit a
  have h2 := CS_unit b
  have h3 := CS_unit t
  unfold eX eY eZ
  generalize CC a = A at *
  generalize SS a = B at *
  generalize CC b = C at *
  generalize SS b = D at *
  generalize CC t = E at *
  generalize SS t = F at *
  have e : (-D * E + B * C * F) * (-D * E + B * C * F) + (C * E + B * D * F) * (C * E + B * D * F) + -(A * F) * -(A * F) = E * E * (C * C + D * D) + F * F * (B * B * (C * C + D * D) + A * A) := by grind
  rw [e, h2]
  have e2 : E * E * 1 + F * F * (B * B * 1 + A * A) = E * E + F * F * (A * A + B * B) := by grind
  rw [e2, h1]; grind
/-- a vector in the exact frame turned to a course. -/
theorem expand (a b t : Int) (x y z : Rat) : x = cU a b x y z * (CC a * CC b) + (cE b x y * SS t + cN a b x y z * CC t) * dX a b t + (cE b x y * CC t - cN a b x y z * SS t) * eX a b t ∧
    y = cU a b x y z * (CC a * SS b) + (cE b x y * SS t + cN a b x y z * CC t) * dY a b t + (cE b x y * CC t - cN a b x y z * SS t) * eY a b t ∧
    z = cU a b x y z * SS a + (cE b x y * SS t + cN a b x y z * CC t) * dZ a b t + (cE b x y * CC t - cN a b x y z * SS t) * eZ a b t := by
  have h1 := CS_unit a
  have h2 := CS_unit b
  have h3 := CS_unit t
  have ex : x = CC b * cH b x y - SS b * cE b x y := by
    unfold cH cE
    have : CC b * (x * CC b + y * SS b) - SS b * (y * CC b - x * SS b) = x * (CC b * CC b + SS b * SS b) := by grind
    rw [this, h2]; grind
  have ey : y = SS b * cH b x y + CC b * cE b x y := by
    unfold cH cE
    have : SS b * (x * CC b + y * SS b) + CC b * (y * CC b - x * SS b) = y * (CC b * CC b + SS b * SS b) := by grind
    rw [this, h2]; grind
  have eh : cH b x y = CC a * cU a b x y z - SS a * cN a b x y z := by
    unfold cU cN
    have : CC a * (cH b x y * CC a + z * SS a) - SS a * (z * CC a - cH b x y * SS a) = cH b x y * (CC a * CC a + SS a * SS a) := by grind
    rw [this, h1]; grind
  have ez : z = SS a * cU a b x y z + CC a * cN a b x y z := by
    unfold cU cN
    have : SS a * (cH b x y * CC a + z * SS a) + CC a * (z * CC a - cH b x y * SS a) = z * (CC a * CC a + SS a * SS a) := by grind
    rw [this, h1]; grind
  rw [eh] at ex ey
  generalize cE b x y = E at *
  generalize cN a b x y z = N at *
  generalize cU a b x y z = U at *
  unfold dX dY dZ eX eY eZ
  have k1 : (E * SS t + N * CC t) * SS t + (E * CC t - N * SS t) * CC t = E := by
    have : (E * SS t + N * CC t) * SS t + (E * CC t - N * SS t) * CC t = E * (CC t * CC t + SS t * SS t) := by grind
    rw [this, h3]; grind
  have k2 : (E * SS t + N * CC t) * CC t - (E * CC t - N * SS t) * SS t = N := by
    have : (E * SS t + N * CC t) * CC t - (E * CC t - N * SS t) * SS t = N * (CC t * CC t + SS t * SS t) := by grind
    rw [this, h3]; grind
  generalize E * SS t + N * CC t = β at *
  generalize E * CC t - N * SS t = α at *
  refine ⟨?_, ?_, ?_⟩
  · rw [ex, ← k1, ← k2]; grind
  · rw [ey, ← k1, ← k2]; grind
  · rw [ez, ← k2]; grind
end Go.Proofs.Ytgcmmfclnialfaa
