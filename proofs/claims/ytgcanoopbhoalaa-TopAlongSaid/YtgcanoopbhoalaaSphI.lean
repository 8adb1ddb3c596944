/- Package sphere: Course. -/
import Derived.Test.YtgcanoopbhoalaaSphG
import Derived.Test.YtgcanoopbhoalaaSphH
namespace Go.Proofs.Ytgcanoopbhoalaa
open Go.RowKit Go.Joins Fdk
set_option linter.unusedVariables false
/-- the initial course, and the error. -/
def crs (a b c d : Int) : Int × Int := if (dstv a b c d).2 = 0 then (if (dstv a b c d).1 < 600 ∨ (dstv a b c d).1 > 64799400 then (0, 10) else ((a2 (lx b c d) (ly a b c d)).1, 0)) else (0, (dstv a b c d).2)
theorem crs_cases (a b c d : Int) : ((dstv a b c d = (0, 1)) ∧ Hid (crs a b c d = (0, 1))) ∨ (∃ v, dstv a b c d = (v, 0) ∧ ((v < 600 ∧ Hid (crs a b c d = (0, 10))) ∨ ((¬ v < 600) ∧ v > 64799400 ∧ Hid (crs a b c d = (0, 10))) ∨ ((¬ v < 600) ∧ (¬ v > 64799400) ∧ Hid (crs a b c d = ((a2 (lx b c d) (ly a b c d)).1, 0))))) := by
  have hd : dstv a b c d = (0, 1) ∨ ∃ v, dstv a b c d = (v, 0) := by
    unfold dstv; split
    · exact .inr ⟨_, rfl⟩
    · exact .inl rfl
  rcases hd with h | ⟨v, h⟩
  · exact .inl ⟨h, Lib.hid (by unfold crs; rw [h, if_neg (by decide)])⟩
  · refine .inr ⟨v, h, ?_⟩
    by_cases h1 : v < 600
    · exact .inl ⟨h1, Lib.hid (by unfold crs; rw [h, if_pos rfl, if_pos (.inl h1)])⟩
    · by_cases h2 : v > 64799400
      · exact .inr (.inl ⟨h1, h2, Lib.hid (by unfold crs; rw [h, if_pos rfl, if_pos (.inr h2)])⟩)
      · exact .inr (.inr ⟨h1, h2, Lib.hid (by unfold crs; rw [h, if_pos rfl, if_neg (by omega)])⟩)
end Go.Proofs.Ytgcanoopbhoalaa
