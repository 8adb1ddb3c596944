/- Division bit by bit: plain facts. -/
namespace Fdk
set_option linter.unusedVariables false
def p2 (i : Nat) : Int := ((2 ^ i : Nat) : Int)
theorem p2_0 : p2 0 = 1 := rfl
theorem p2_s (i : Nat) : p2 (i + 1) = 2 * p2 i := by unfold p2; rw [Nat.pow_succ]; omega
theorem p2_pos (i : Nat) : 1 ≤ p2 i := by unfold p2; have : 1 ≤ 2 ^ i := Nat.one_le_two_pow; omega
theorem p2_le {i j : Nat} (h : i ≤ j) : p2 i ≤ p2 j := by unfold p2; have := Nat.pow_le_pow_right (n := 2) (by omega) h; omega
theorem p2_127 : p2 127 = 170141183460469231731687303715884105728 := by decide +kernel
theorem p2_128 : p2 128 = 340282366920938463463374607431768211456 := by decide +kernel
attribute [irreducible] p2
/-- the bits of N that are divided so far. -/
structure Dv (N c : Int) (i : Nat) (hi lo qh ql r : Int) : Prop where
  h0 : 0 ≤ hi
  h1 : hi < 18446744073709551616
  l0 : 0 ≤ lo
  l1 : lo < 18446744073709551616
  a0 : 0 ≤ qh
  b0 : 0 ≤ ql
  b1 : ql < 18446744073709551616
  r0 : 0 ≤ r
  r1 : r < c
  eq : N * p2 i = ((qh * 18446744073709551616 + ql) * c + r) * 340282366920938463463374607431768211456 + (hi * 18446744073709551616 + lo)
theorem Dv.start {N c : Int} (h0 : 0 ≤ N) (h1 : N < 340282366920938463463374607431768211456) (hc : 1 ≤ c) : Dv N c 0 (N / 18446744073709551616) (N % 18446744073709551616) 0 0 0 :=
  ⟨by omega, by omega, by omega, by omega, by omega, by omega, by omega, by omega, by omega, by rw [p2_0]; omega⟩
theorem Dv.qh {N c hi lo qh ql r : Int} {i : Nat} (h : Dv N c i hi lo qh ql r) (hN0 : 0 ≤ N) (hN : N ≤ 85070591730234615865843651857942052864) (hi' : i ≤ 127) (hc : 1 ≤ c) : qh < 4611686018427387904 := by
  obtain ⟨h0, h1, l0, l1, a0, b0, b1, r0, r1, eq⟩ := h
  have k1 : N * p2 i ≤ 85070591730234615865843651857942052864 * 170141183460469231731687303715884105728 := by
    have := p2_le hi'
    rw [p2_127] at this
    have := p2_pos i
    exact Int.mul_le_mul hN (by omega) (by omega) (by omega)
  have k2 : qh * 18446744073709551616 + ql ≤ (qh * 18446744073709551616 + ql) * c := by
    have : (qh * 18446744073709551616 + ql) * 1 ≤ (qh * 18446744073709551616 + ql) * c := Int.mul_le_mul_of_nonneg_left hc (by omega)
    omega
  rw [eq] at k1
  generalize (qh * 18446744073709551616 + ql) * c = Z at *
  omega
theorem Dv.step {N c hi lo qh ql r : Int} {i : Nat} (h : Dv N c i hi lo qh ql r) :
    (2 * r + hi / 9223372036854775808 < c → Dv N c (i + 1) (hi * 2 % 18446744073709551616 + lo / 9223372036854775808) (lo * 2 % 18446744073709551616) (qh * 2 + ql / 9223372036854775808) (ql * 2 % 18446744073709551616) (r * 2 + hi / 9223372036854775808)) ∧
    (c ≤ 2 * r + hi / 9223372036854775808 → Dv N c (i + 1) (hi * 2 % 18446744073709551616 + lo / 9223372036854775808) (lo * 2 % 18446744073709551616) (qh * 2 + ql / 9223372036854775808) (ql * 2 % 18446744073709551616 + 1) (r * 2 + hi / 9223372036854775808 - c)) := by
  obtain ⟨h0, h1, l0, l1, a0, b0, b1, r0, r1, eq⟩ := h
  have e1 : N * p2 (i + 1) = 2 * (N * p2 i) := by rw [p2_s]; grind
  have eQ : (qh * 2 + ql / 9223372036854775808) * 18446744073709551616 + ql * 2 % 18446744073709551616 = 2 * (qh * 18446744073709551616 + ql) := by omega
  have e3 : ∀ A : Int, (2 * A + 1) * c = 2 * (A * c) + c := fun A => by grind
  constructor
  · intro hr
    refine ⟨by omega, by omega, by omega, by omega, by omega, by omega, by omega, by omega, by omega, ?_⟩
    rw [e1, eq, eQ, Int.mul_assoc]
    generalize (qh * 18446744073709551616 + ql) * c = Z
    omega
  · intro hr
    refine ⟨by omega, by omega, by omega, by omega, by omega, by omega, by omega, by omega, by omega, ?_⟩
    rw [e1, eq, show (qh * 2 + ql / 9223372036854775808) * 18446744073709551616 + (ql * 2 % 18446744073709551616 + 1) = 2 * (qh * 18446744073709551616 + ql) + 1 by omega, e3]
    generalize (qh * 18446744073709551616 + ql) * c = Z
    omega
theorem Dv.fin {N c hi lo qh ql r : Int} (h : Dv N c 128 hi lo qh ql r) (hc : 1 ≤ c) : qh * 18446744073709551616 + ql = N / c ∧ r = N % c := by
  obtain ⟨h0, h1, l0, l1, a0, b0, b1, r0, r1, eq⟩ := h
  rw [p2_128] at eq
  have e : N = (qh * 18446744073709551616 + ql) * c + r := by
    generalize (qh * 18446744073709551616 + ql) * c = Z at *
    omega
  have e2 : N = r + c * (qh * 18446744073709551616 + ql) := by rw [e, Int.mul_comm c]; omega
  refine ⟨?_, ?_⟩
  · rw [e2, Int.add_mul_ediv_left _ _ (by omega), Int.ediv_eq_zero_of_lt r0 r1]; omega
  · rw [e2, Int.add_mul_emod_self_left, Int.emod_eq_of_lt r0 r1]
end Fdk
