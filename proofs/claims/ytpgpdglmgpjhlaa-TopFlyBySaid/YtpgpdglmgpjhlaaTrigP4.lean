/- The whole square root: plain facts. -/
import Derived.Test.YtpgpdglmgpjhlaaTrigP3
namespace Fdk
set_option linter.unusedVariables false
def sN : Nat := 5000000000
theorem sN_eq : sN = 5000000000 := rfl
attribute [irreducible] sN
/-- the greatest number whose square is at most n. -/
def isq (n : Int) : Int := (grt (fun k => decide ((k : Int) * k ≤ n)) sN : Nat)
theorem sq_le {a b : Int} (h0 : 0 ≤ a) (h : a ≤ b) : a * a ≤ b * b := Int.mul_le_mul h h h0 (by omega)
theorem isq_eq {n r : Int} (h0 : 0 ≤ r) (hr : r ≤ 5000000000) (h1 : r * r ≤ n) (h2 : n < (r + 1) * (r + 1)) : isq n = r := by
  obtain ⟨k, rfl⟩ := Int.eq_ofNat_of_zero_le h0
  have e := sN_eq
  unfold isq; congr 1
  refine grt_eq _ _ _ (by omega) (decide_eq_true h1) (fun j hj hj2 => decide_eq_false (fun h => ?_))
  have := sq_le (a := (k : Int) + 1) (b := j) (by omega) (by omega)
  omega
theorem isq_ok {n : Int} (h0 : 0 ≤ n) (h1 : n ≤ 9223372036854775807) : 0 ≤ isq n ∧ isq n ≤ 3037000500 ∧ isq n * isq n ≤ n ∧ n < (isq n + 1) * (isq n + 1) := by
  have e := sN_eq
  have a0 := grt_le (fun k => decide ((k : Int) * k ≤ n)) sN
  have a1 := of_decide_eq_true (grt_ok (fun k => decide ((k : Int) * k ≤ n)) sN (decide_eq_true (by simpa using h0)))
  have a2 := grt_above (fun k => decide ((k : Int) * k ≤ n)) sN (grt (fun k => decide ((k : Int) * k ≤ n)) sN + 1) (by omega)
  have hr : isq n ≤ 3037000500 := by
    unfold isq
    generalize grt (fun k => decide ((k : Int) * k ≤ n)) sN = g at *
    by_cases h : (g : Int) ≤ 3037000500
    · exact h
    · have := sq_le (a := 3037000501) (b := g) (by omega) (by omega)
      generalize (g : Int) * g = P at *
      omega
  refine ⟨by unfold isq; omega, hr, a1, ?_⟩
  unfold isq at *
  generalize grt (fun k => decide ((k : Int) * k ≤ n)) sN = g at *
  have := of_decide_eq_false (a2 (by omega))
  have e2 : ((g + 1 : Nat) : Int) = (g : Int) + 1 := by omega
  rw [e2] at this
  omega
attribute [irreducible] isq
theorem isq_0 : isq 0 = 0 := isq_eq (by omega) (by omega) (by omega) (by omega)
/-- one step of Newton's. -/
theorem newt {n x : Int} (hn : 1 ≤ n) (hx : 1 ≤ x) : n < ((x + n / x) / 2 + 1) * ((x + n / x) / 2 + 1) := by
  have e := Int.mul_ediv_add_emod n x
  have l := Int.emod_lt_of_pos n (by omega : 0 < x)
  have g := Int.emod_nonneg n (by omega : x ≠ 0)
  have k : n < x * (n / x + 1) := by rw [Int.mul_add]; omega
  have a0 : 0 ≤ n / x := Int.ediv_nonneg (by omega) (by omega)
  generalize n / x = a at *
  have s : x + a + 1 ≤ 2 * ((x + a) / 2 + 1) := by omega
  have q := sq_le (a := x + a + 1) (b := 2 * ((x + a) / 2 + 1)) (by omega) s
  have d : 0 ≤ (x - (a + 1)) * (x - (a + 1)) := by
    by_cases h : 0 ≤ x - (a + 1)
    · exact Int.mul_nonneg h h
    · have := Int.mul_nonneg (a := -(x - (a + 1))) (b := -(x - (a + 1))) (by omega) (by omega)
      rwa [Int.neg_mul_neg] at this
  have e1 : (x + a + 1) * (x + a + 1) = (x - (a + 1)) * (x - (a + 1)) + 4 * (x * (a + 1)) := by grind
  have e2 : (2 * ((x + a) / 2 + 1)) * (2 * ((x + a) / 2 + 1)) = 4 * (((x + a) / 2 + 1) * ((x + a) / 2 + 1)) := by grind
  rw [e1, e2] at q
  generalize x * (a + 1) = P at *
  generalize ((x + a) / 2 + 1) * ((x + a) / 2 + 1) = Q at *
  omega
theorem newt_end {n x : Int} (hn : 1 ≤ n) (hx : 1 ≤ x) (hx2 : x ≤ 5000000000) (h : x ≤ (x + n / x) / 2) (hi : n < (x + 1) * (x + 1)) : isq n = x := by
  refine isq_eq (by omega) hx2 ?_ hi
  have h2 : x ≤ n / x := by omega
  have e := Int.mul_ediv_add_emod n x
  have g := Int.emod_nonneg n (by omega : x ≠ 0)
  have := Int.mul_le_mul_of_nonneg_left h2 (by omega : 0 ≤ x)
  omega
theorem newt_q {n x : Int} (hx : 1 ≤ x) (hi : n < (x + 1) * (x + 1)) : n / x ≤ x + 2 := by
  have e : (x + 1) * (x + 1) = x * (x + 2) + 1 := by grind
  rw [e] at hi
  have e2 : (x + 3) * x = x * (x + 2) + x := by grind
  have k : n < (x + 3) * x := by rw [e2]; generalize x * (x + 2) = P at *; omega
  have : n / x < x + 3 := Int.ediv_lt_of_lt_mul (by omega) k
  omega
theorem newt_b {n x : Int} (hn : 1 ≤ n) (hx : 1 ≤ x) (hx2 : x ≤ 4294967296) (hn2 : n ≤ 9223372036854775807) : 0 ≤ n / x ∧ n / x ≤ n ∧ 1 ≤ (x + n / x) / 2 := by
  have a0 : 0 ≤ n / x := Int.ediv_nonneg (by omega) (by omega)
  have a1 : n / x ≤ n := Int.ediv_le_self _ (by omega)
  refine ⟨a0, a1, ?_⟩
  by_cases h : x = 1
  · subst h; rw [Int.ediv_one]; omega
  · omega
end Fdk
