/- Package wide: doubling, differences, long division. -/
import Derived.Test.YtpgpdglmgpjhlaaWidA
namespace Go.Proofs.Ytpgpdglmgpjhlaa
open Go.RowKit Go.Joins Fdk
set_option linter.unusedVariables false
theorem or_bit {R b : Int} (h0 : 0 ≤ R) (h1 : R < 9223372036854775808) (b0 : 0 ≤ b) (b1 : b ≤ 1) : bits .or .u64 (R * 2) b = R * 2 + b := by
  obtain ⟨n, rfl⟩ := Int.eq_ofNat_of_zero_le h0
  obtain ⟨m, rfl⟩ := Int.eq_ofNat_of_zero_le b0
  have e0 : (n : Int) * 2 = ((2 ^ 1 * n : Nat) : Int) := by omega
  rw [e0]
  have e1 : (BitVec.ofInt 64 ((2 ^ 1 * n : Nat) : Int)).toNat = 2 ^ 1 * n := by
    rw [BitVec.ofInt_natCast, BitVec.toNat_ofNat]; exact Nat.mod_eq_of_lt (by omega)
  have e2 : (BitVec.ofInt 64 (m : Int)).toNat = m := by
    rw [BitVec.ofInt_natCast, BitVec.toNat_ofNat]; exact Nat.mod_eq_of_lt (by omega)
  show IntKind.u64.wrap ((BitVec.ofInt 64 ((2 ^ 1 * n : Nat) : Int) ||| BitVec.ofInt 64 (m : Int)).toNat : Int) = _
  rw [BitVec.toNat_or, e1, e2, IntKind.wrap_u64, ← Nat.two_pow_add_eq_or_of_lt (show m < 2 ^ 1 by omega)]
  omega
theorem and_one {x : Int} (h0 : 0 ≤ x) (h1 : x < 18446744073709551616) : bits .and .u64 x 1 = x % 2 := by
  obtain ⟨n, rfl⟩ := Int.eq_ofNat_of_zero_le h0
  have e1 : (BitVec.ofInt 64 (n : Int)).toNat = n := by
    rw [BitVec.ofInt_natCast, BitVec.toNat_ofNat]; exact Nat.mod_eq_of_lt (by omega)
  have e2 : (BitVec.ofInt 64 (1 : Int)).toNat = 1 := by decide
  show IntKind.u64.wrap ((BitVec.ofInt 64 (n : Int) &&& BitVec.ofInt 64 (1 : Int)).toNat : Int) = _
  rw [BitVec.toNat_and, e1, e2, IntKind.wrap_u64, show (1 : Nat) = 2 ^ 1 - 1 from rfl, Nat.and_two_pow_sub_one_eq_mod]
  omega
set_option maxHeartbeats 1600000 in
theorem stwice_any (R b : Int) (w : World) (h0 : 0 ≤ R) (h1 : R < 9223372036854775808) (b0 : 0 ≤ b) (b1 : b ≤ 1) :
    Calls Try.prog 64 #[szV 0 R, .int .u64 b] w fun e w' => e = .returned (szV 0 (R * 2 + b)) ∧ Below w.heap.size w w' := by
  have e1 := or_bit h0 h1 b0 b1
  have e2 : R / 9223372036854775808 = 0 := by omega
  have e3 : IntKind.u64.wrap (R * 2) = R * 2 := by rw [IntKind.wrap_u64]; omega
  have e4 : bits .or .u64 0 0 = 0 := by decide
  go_enter Try.func64, Try.ntmps64
  go_wp2
  exact bodyPost_ret (v := szV 0 (R * 2 + b)) (by simp [results, Try.results64, go_sem]) rfl ⟨rfl, below_alloc2 w _ _⟩
theorem sless_any (R D : Int) (w : World) (h0 : 0 ≤ D) (h1 : D ≤ R) (h2 : R < 18446744073709551616) :
    Calls Try.prog 60 #[szV 0 R, szV 0 D] w fun e w' => e = .returned (szV 0 (R - D)) ∧ Below w.heap.size w w' := by
  have k1 := fun w => sub64_call R D 0 h0 (by omega) (by omega) (by omega) h2 w
  have k2 := fun w => sub64_call 0 0 0 (by omega) (by omega) (by omega) (by omega) (by omega) w
  rw [Int.sub_zero] at k1
  go_enter Try.func60, Try.ntmps60
  go_wp2
  exact bodyPost_ret (v := szV 0 (R - D)) (by simp [results, Try.results60, go_sem]) rfl ⟨rfl, below_alloc3 w _ _ _⟩
end Go.Proofs.Ytpgpdglmgpjhlaa
