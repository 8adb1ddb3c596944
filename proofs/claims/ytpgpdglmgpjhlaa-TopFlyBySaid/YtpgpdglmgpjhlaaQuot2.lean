/- The reference's quotient, rounded in one of three ways. -/
import Derived.Test.YtpgpdglmgpjhlaaQuot
namespace Go.Proofs.Ytpgpdglmgpjhlaa
open Go.RowKit Fdk
set_option linter.unusedVariables false

theorem iabs_mul {a b : Int} (h0 : -9223372036854775807 ≤ a) (h1 : a ≤ 9223372036854775807) (h2 : -9223372036854775807 ≤ b) (h3 : b ≤ 9223372036854775807) :
    0 ≤ iabs a ∧ iabs a ≤ 9223372036854775807 ∧ 0 ≤ iabs b ∧ iabs b ≤ 9223372036854775807 ∧ 0 ≤ iabs a * iabs b ∧ iabs a * iabs b ≤ 85070591730234615865843651857942052864 := by
  have a0 := iabs_nn a
  have b0 := iabs_nn b
  have a1 : iabs a ≤ 9223372036854775807 := by unfold iabs; split <;> omega
  have b1 : iabs b ≤ 9223372036854775807 := by unfold iabs; split <;> omega
  have k : iabs a * iabs b ≤ 9223372036854775807 * 9223372036854775807 := Int.mul_le_mul a1 b1 b0 (by omega)
  exact ⟨a0, a1, b0, b1, Int.mul_nonneg a0 b0, by omega⟩
theorem compl64 {q : Int} (h0 : 0 ≤ q) (h1 : q < 18446744073709551616) : bits BinOp.xor IntKind.u64 IntKind.u64.max q = 18446744073709551615 - q := by
  obtain ⟨n, rfl⟩ := Int.eq_ofNat_of_zero_le h0
  have e1 : (BitVec.ofInt 64 (n : Int)).toNat = n := by
    rw [BitVec.ofInt_natCast, BitVec.toNat_ofNat]; exact Nat.mod_eq_of_lt (by omega)
  have e2 : BitVec.ofInt 64 IntKind.u64.max = BitVec.allOnes 64 := by decide +kernel
  show IntKind.u64.wrap ((BitVec.ofInt 64 IntKind.u64.max ^^^ BitVec.ofInt 64 (n : Int)).toNat : Int) = _
  rw [e2, BitVec.allOnes_xor, BitVec.toNat_not, e1, IntKind.wrap_u64]
  omega
theorem neg64 {q : Int} (h0 : 0 ≤ q) (h1 : q ≤ 4611686018427387905) : wrap64 (IntKind.u64.wrap (bits BinOp.xor IntKind.u64 IntKind.u64.max q + 1)) = -q := by
  rw [compl64 h0 (by omega), IntKind.wrap_u64]; unfold wrap64; omega
/-- the three ways of rounding a quotient by a number that is positive. -/
def qdown (p c : Int) : Int := p / c
def qup (p c : Int) : Int := - (-p / c)
def qnear (p c : Int) : Int := (2 * p + c) / (2 * c)
theorem qd_pos {P c Q r : Int} (hc : 1 ≤ c) (hQ : Q = P / c) (hr : r = P % c) : qdown P c = Q ∧ qup P c = (if r = 0 then Q else Q + 1) ∧ qnear P c = (if c - r < r ∨ r = c - r then Q + 1 else Q) := by
  have e := Int.mul_ediv_add_emod P c
  have r0 := Int.emod_nonneg P (by omega : c ≠ 0)
  have r1 := Int.emod_lt_of_pos P (by omega : 0 < c)
  rw [← hQ, ← hr] at e
  rw [← hr] at r0 r1
  refine ⟨hQ.symm, ?_, ?_⟩
  · unfold qup
    by_cases h : r = 0
    · rw [if_pos h, show -P = c * (-Q) by grind, Int.mul_ediv_cancel_left _ (by omega)]; omega
    · rw [if_neg h, show -P = (c - r) + c * (-(Q + 1)) by grind, Int.add_mul_ediv_left _ _ (by omega), Int.ediv_eq_zero_of_lt (by omega) (by omega)]; omega
  · unfold qnear
    by_cases h : c - r < r ∨ r = c - r
    · rw [if_pos h, show 2 * P + c = (2 * r - c) + 2 * c * (Q + 1) by grind, Int.add_mul_ediv_left _ _ (by omega), Int.ediv_eq_zero_of_lt (by omega) (by omega)]; omega
    · rw [if_neg h, show 2 * P + c = (2 * r + c) + 2 * c * Q by grind, Int.add_mul_ediv_left _ _ (by omega), Int.ediv_eq_zero_of_lt (by omega) (by omega)]; omega
theorem qd_neg {P c Q r : Int} (hc : 1 ≤ c) (hQ : Q = P / c) (hr : r = P % c) : qdown (-P) c = (if r = 0 then -Q else -(Q + 1)) ∧ qup (-P) c = -Q ∧ qnear (-P) c = (if c - r < r then -(Q + 1) else -Q) := by
  have e := Int.mul_ediv_add_emod P c
  have r0 := Int.emod_nonneg P (by omega : c ≠ 0)
  have r1 := Int.emod_lt_of_pos P (by omega : 0 < c)
  rw [← hQ, ← hr] at e
  rw [← hr] at r0 r1
  refine ⟨?_, ?_, ?_⟩
  · unfold qdown
    by_cases h : r = 0
    · rw [if_pos h, show -P = c * (-Q) by grind, Int.mul_ediv_cancel_left _ (by omega)]
    · rw [if_neg h, show -P = (c - r) + c * (-(Q + 1)) by grind, Int.add_mul_ediv_left _ _ (by omega), Int.ediv_eq_zero_of_lt (by omega) (by omega)]; omega
  · unfold qup; rw [Int.neg_neg, hQ]
  · unfold qnear
    by_cases h : c - r < r
    · rw [if_pos h, show 2 * -P + c = (3 * c - 2 * r) + 2 * c * (-(Q + 1)) by grind, Int.add_mul_ediv_left _ _ (by omega), Int.ediv_eq_zero_of_lt (by omega) (by omega)]; omega
    · rw [if_neg h, show 2 * -P + c = (c - 2 * r) + 2 * c * (-Q) by grind, Int.add_mul_ediv_left _ _ (by omega), Int.ediv_eq_zero_of_lt (by omega) (by omega)]; omega
theorem qz {q : Int} (h : 0 ≤ q) : (q + 1 == 0) = false := by rw [beq_eq_false_iff_ne]; omega
abbrev TwoI (a b : Int) : Ending := .returned (.tuple #[.int .i64 a, .int .i64 b])
theorem ti {a b : Int} (h : a = b) : TwoI a 0 = TwoI b 0 := by rw [h]
theorem lt_dec {a : Int} : (0 ≤ a → decide (a < 0) = false) ∧ (a < 0 → decide (a < 0) = true) := ⟨fun h => decide_eq_false (by omega), fun h => decide_eq_true h⟩

end Go.Proofs.Ytpgpdglmgpjhlaa
