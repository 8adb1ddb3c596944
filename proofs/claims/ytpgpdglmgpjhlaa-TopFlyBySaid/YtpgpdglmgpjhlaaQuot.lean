/- Exact quotients of the reference's layer 1: what each call returns. -/
import Derived.Test.YtpgpdglmgpjhlaaTrigX
import Derived.Laws.Bits64
import Derived.Test.YtpgpdglmgpjhlaaTrigP7
namespace Go.Proofs.Ytpgpdglmgpjhlaa
open Go.RowKit Fdk
set_option linter.unusedVariables false

theorem and32 {x : Int} (h0 : 0 ≤ x) (h1 : x < 18446744073709551616) : bits .and .u64 x 4294967295 = x % 4294967296 := by
  obtain ⟨n, rfl⟩ := Int.eq_ofNat_of_zero_le h0
  have e1 : (BitVec.ofInt 64 (n : Int)).toNat = n := by
    rw [BitVec.ofInt_natCast, BitVec.toNat_ofNat]; exact Nat.mod_eq_of_lt (by omega)
  have e2 : (BitVec.ofInt 64 (4294967295 : Int)).toNat = 4294967295 := by decide
  show IntKind.u64.wrap ((BitVec.ofInt 64 (n : Int) &&& BitVec.ofInt 64 (4294967295 : Int)).toNat : Int) = _
  rw [BitVec.toNat_and, e1, e2, IntKind.wrap_u64, show (4294967295 : Nat) = 2 ^ 32 - 1 from rfl, Nat.and_two_pow_sub_one_eq_mod]
  omega
theorem or32 {h l : Int} (h0 : 0 ≤ h) (h1 : h < 4294967296) (l0 : 0 ≤ l) (l1 : l < 4294967296) : bits .or .u64 (h * 4294967296) l = h * 4294967296 + l := by
  obtain ⟨n, rfl⟩ := Int.eq_ofNat_of_zero_le h0
  obtain ⟨m, rfl⟩ := Int.eq_ofNat_of_zero_le l0
  have e0 : (n : Int) * 4294967296 = ((2 ^ 32 * n : Nat) : Int) := by omega
  rw [e0]
  have e1 : (BitVec.ofInt 64 ((2 ^ 32 * n : Nat) : Int)).toNat = 2 ^ 32 * n := by
    rw [BitVec.ofInt_natCast, BitVec.toNat_ofNat]; exact Nat.mod_eq_of_lt (by omega)
  have e2 : (BitVec.ofInt 64 (m : Int)).toNat = m := by
    rw [BitVec.ofInt_natCast, BitVec.toNat_ofNat]; exact Nat.mod_eq_of_lt (by omega)
  show IntKind.u64.wrap ((BitVec.ofInt 64 ((2 ^ 32 * n : Nat) : Int) ||| BitVec.ofInt 64 (m : Int)).toNat : Int) = _
  rw [BitVec.toNat_or, e1, e2, IntKind.wrap_u64, ← Nat.two_pow_add_eq_or_of_lt (show m < 2 ^ 32 by omega)]
  omega
/-- two numbers below 2^32. -/
theorem mm {x y : Int} (h0 : 0 ≤ x) (h1 : x ≤ 4294967295) (h2 : 0 ≤ y) (h3 : y ≤ 4294967295) : 0 ≤ x * y ∧ x * y ≤ 18446744065119617025 := by
  have k : x * y ≤ 4294967295 * 4294967295 := Int.mul_le_mul h1 h3 h2 (by omega)
  exact ⟨Int.mul_nonneg h0 h2, by omega⟩
theorem prod_eq (a b a1 a0 b1 b0 : Int) (ha : a = a1 * 4294967296 + a0) (hb : b = b1 * 4294967296 + b0) : a * b = a1 * b1 * 18446744073709551616 + (a1 * b0 + a0 * b1) * 4294967296 + a0 * b0 := by
  rw [ha, hb]; grind
theorem prod_fin {p q r s P : Int} (h : P = s * 18446744073709551616 + (q + r) * 4294967296 + p) :
    s + (q + p / 4294967296) / 4294967296 + (r + (q + p / 4294967296) % 4294967296) / 4294967296 = P / 18446744073709551616 ∧ (r + (q + p / 4294967296) % 4294967296) % 4294967296 * 4294967296 + p % 4294967296 = P % 18446744073709551616 := by
  subst h; omega
abbrev TwoU (a b : Int) : Ending := .returned (.tuple #[.int .u64 a, .int .u64 b])
theorem or1 {h l : Int} (h0 : 0 ≤ h) (h1 : h < 9223372036854775808) (l0 : 0 ≤ l) (l1 : l < 2) : bits .or .u64 (h * 2) l = h * 2 + l := by
  obtain ⟨n, rfl⟩ := Int.eq_ofNat_of_zero_le h0
  obtain ⟨m, rfl⟩ := Int.eq_ofNat_of_zero_le l0
  have e0 : (n : Int) * 2 = ((2 ^ 1 * n : Nat) : Int) := by omega
  rw [e0]
  have e1 : (BitVec.ofInt 64 ((2 ^ 1 * n : Nat) : Int)).toNat = 2 ^ 1 * n := by
    rw [BitVec.ofInt_natCast, BitVec.toNat_ofNat]; exact Nat.mod_eq_of_lt (by omega)
  have e2 : (BitVec.ofInt 64 (m : Int)).toNat = m := by
    rw [BitVec.ofInt_natCast, BitVec.toNat_ofNat]; exact Nat.mod_eq_of_lt (by omega)
  show IntKind.u64.wrap ((BitVec.ofInt 64 ((2 ^ 1 * n : Nat) : Int) ||| BitVec.ofInt 64 (m : Int)).toNat : Int) = _
  rw [BitVec.toNat_or, e1, e2, IntKind.wrap_u64, ← Nat.two_pow_add_eq_or_of_lt (show m < 2 ^ 1 by omega)]
  omega

theorem or1b {l : Int} (h0 : 0 ≤ l) (h1 : l < 9223372036854775808) : bits .or .u64 (l * 2) 1 = l * 2 + 1 := or1 h0 h1 (by omega) (by omega)
abbrev ThreeU (a b c : Int) : Ending := .returned (.tuple #[.int .u64 a, .int .u64 b, .int .u64 c])
def DivEnd (N c : Int) (e : Ending) : Prop := ∃ qh ql, e = ThreeU qh ql (N % c) ∧ qh * 18446744073709551616 + ql = N / c ∧ 0 ≤ qh ∧ 0 ≤ ql ∧ ql < 18446744073709551616
end Go.Proofs.Ytpgpdglmgpjhlaa
