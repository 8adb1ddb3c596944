/- The exact rotation: its tangent is at least the angle, its sine at most (plain). -/
import Derived.Test.YtmlacekgmdlfjaaRotY
namespace Go.Proofs.Ytmlacekgmdlfjaa
open Go.RowKit Go.Joins Fdk
set_option linter.unusedVariables false
theorem SS_nn {n : Int} (h0 : 0 ≤ n) (h1 : n ≤ 64799998) : 0 ≤ SS n := by
  by_cases h : 2 ≤ n
  · have := SS_pos h h1; grind
  · rcases (show n = 0 ∨ n = 1 by omega) with rfl | rfl
    · have : SS 0 = 0 := by decide +kernel
      grind
    · rw [SS_one]; have := su_k; grind
theorem CS_succ (n : Nat) : CC ((n + 1 : Nat) : Int) = CC (n : Int) * cu - SS (n : Int) * su ∧ SS ((n + 1 : Nat) : Int) = SS (n : Int) * cu + CC (n : Int) * su := by
  have := CS_add (n : Int) 1
  rw [CC_one, SS_one] at this
  have e : ((n + 1 : Nat) : Int) = (n : Int) + 1 := by omega
  rw [e]; exact this
theorem ncast (n : Nat) : ((n + 1 : Nat) : Rat) = (n : Rat) + 1 := by rw [Rat.natCast_add]; rfl
theorem tan_lo (n : Nat) (hn : n ≤ 64799997) : (n : Rat) * su * CC (n : Int) ≤ cu * SS (n : Int) := by
  induction n with
  | zero =>
    have h1 : SS ((0 : Nat) : Int) = 0 := by decide +kernel
    have h2 : ((0 : Nat) : Rat) = 0 := rfl
    rw [h1, h2]; grind
  | succ n ih =>
    have h := ih (by omega)
    obtain ⟨e1, e2⟩ := CS_succ n
    have sp := SS_nn (n := (n : Int)) (by omega) (by omega)
    have c := cu_lo
    have s := su_k
    have nn : (0 : Rat) ≤ (n : Rat) := Rat.natCast_nonneg
    rw [e1, e2, ncast]
    generalize CC (n : Int) = C at *
    generalize SS (n : Int) = S at *
    generalize (n : Rat) = m at *
    have k1 := Rat.mul_nonneg (a := cu) (b := cu * S - m * su * C) (by grind) (by grind)
    have k2 := Rat.mul_nonneg (a := (m + 1) * su * su) (b := S) (Rat.mul_nonneg (Rat.mul_nonneg (by grind) (by grind)) (by grind)) sp
    grind
theorem sin_hi (n : Nat) (hn : n ≤ 64799997) : SS (n : Int) ≤ (n : Rat) * su := by
  induction n with
  | zero =>
    have h1 : SS ((0 : Nat) : Int) = 0 := by decide +kernel
    have h2 : ((0 : Nat) : Rat) = 0 := rfl
    rw [h1, h2]; grind
  | succ n ih =>
    have h := ih (by omega)
    obtain ⟨e1, e2⟩ := CS_succ n
    have sp := SS_nn (n := (n : Int)) (by omega) (by omega)
    have cb := (CS_1 (n : Int)).1
    have c := cu_lo
    have s := su_k
    rw [e2, ncast]
    generalize CC (n : Int) = C at *
    generalize SS (n : Int) = S at *
    have k1 := Rat.mul_nonneg (a := S) (b := 1 - cu) sp (by grind)
    have k2 := Rat.mul_nonneg (a := 1 - C) (b := su) (by grind) (by grind)
    grind
theorem su_kap : 1 ≤ 20626481 * su ∧ 20626481 * su ≤ 1 + 1/10000000 := by
  have a := uu_b
  have b := su_b
  constructor <;> grind
theorem kap_tan {s : Int} (h0 : 0 ≤ s) (h1 : s ≤ 32400000) : (s : Rat) * CC s ≤ 20626481 * SS s := by
  obtain ⟨n, rfl⟩ : ∃ n : Nat, s = n := ⟨s.toNat, by omega⟩
  have t := tan_lo n (by omega)
  have sp := SS_nn h0 (by omega)
  have k := su_kap
  have c := cu_lo
  have e : ((n : Int) : Rat) = (n : Rat) := rfl
  rw [e]
  have nn : (0 : Rat) ≤ (n : Rat) := Rat.natCast_nonneg
  have hc : (0 : Rat) ≤ CC (n : Int) ∨ CC (n : Int) ≤ 0 := Rat.le_total
  generalize CC (n : Int) = C at *
  generalize SS (n : Int) = S at *
  generalize (n : Rat) = m at *
  rcases hc with hc | hc
  · have k1 := Rat.mul_nonneg (a := 20626481 * su - 1) (b := m * C) (by grind) (Rat.mul_nonneg nn hc)
    have k2 := Rat.mul_nonneg (a := 1 - cu) (b := S) (by grind) sp
    grind
  · have := Rat.mul_nonneg (a := m) (b := -C) nn (by grind)
    grind
theorem kap_sin {s : Int} (h0 : 0 ≤ s) (h1 : s ≤ 32400000) : 20626481 * SS s ≤ (s : Rat) * (1 + 1/10000000) := by
  obtain ⟨n, rfl⟩ : ∃ n : Nat, s = n := ⟨s.toNat, by omega⟩
  have t := sin_hi n (by omega)
  have k := su_kap
  have e : ((n : Int) : Rat) = (n : Rat) := rfl
  rw [e]
  have nn : (0 : Rat) ≤ (n : Rat) := Rat.natCast_nonneg
  generalize SS (n : Int) = S at *
  generalize (n : Rat) = m at *
  have k1 := Rat.mul_nonneg (a := m) (b := 1 + 1/10000000 - 20626481 * su) nn (by grind)
  grind
end Go.Proofs.Ytmlacekgmdlfjaa
