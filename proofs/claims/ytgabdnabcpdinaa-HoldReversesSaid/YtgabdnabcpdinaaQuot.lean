/- Exact quotients of the reference's layer 1: what each call returns. -/
import Derived.Test.YtgabdnabcpdinaaTrigX
import Derived.Laws.Bits64
import Derived.Test.YtgabdnabcpdinaaTrigP7
namespace Go.Proofs.Ytgabdnabcpdinaa
open Go.RowKit Fdk
set_option linter.unusedVariables false

theorem and32 {x : Int} (h0 : 0 ≤ x) (h1 : x < 18446744073709551616) : bits .and .u64 x 4294967295 = x % 4294967296 := by
  obtain ⟨n, rfl⟩ := Int.eq_ofNat_of_zero_le h0
  have e1 : (BitVec.ofInt 64 (n : Int)).toNat = n := by
    rw [BitVec.ofInt_natCast, BitVec.toNat_ofNat]; exact Nat.mod_eq_of_lt (by omega)
  have e2 : (BitVec.ofInt 64 (4294967295 : Int)).toNat = 4294967295 := by decide
  show IntKind.u64.wrap ((BitVec.ofInt 64 (n : Int) &&& BitVec.ofInt 64 (4294967295 : Int)).toNat : Int) = _
  rw [BitVec.toNat_and, e1, e2, IntKind.wrap_u64, show (4294967295 : Nat) = 2 ^ 32 - 1 from rfl, Nat.and_two_pow_sub_one_eq_mod]
  omega
theorem or32 {h l : Int} (h0 : 0 ≤ h) (h1 : h < 4294967296) (l0 : 0 ≤ l) (l1 : l < 4294967296) : bits .or .u64 (h * 4294967296) l = h * 4294967296 + l := by
  obtain ⟨n, rfl⟩ := Int.eq_ofNat_of_zero_le h0
  obtain ⟨m, rfl⟩ := Int.eq_ofNat_of_zero_le l0
  have e0 : (n : Int) * 4294967296 = ((2 ^ 32 * n : Nat) : Int) := by omega
  rw [e0]
  have e1 : (BitVec.ofInt 64 ((2 ^ 32 * n : Nat) : Int)).toNat = 2 ^ 32 * n := by
    rw [BitVec.ofInt_natCast, BitVec.toNat_ofNat]; exact Nat.mod_eq_of_lt (by omega)
  have e2 : (BitVec.ofInt 64 (m : Int)).toNat = m := by
    rw [BitVec.ofInt_natCast, BitVec.toNat_ofNat]; exact Nat.mod_eq_of_lt (by omega)
  show IntKind.u64.wrap ((BitVec.ofInt 64 ((2 ^ 32 * n : Nat) : Int) ||| BitVec.ofInt 64 (m : Int)).toNat : Int) = _
  rw [BitVec.toNat_or, e1, e2, IntKind.wrap_u64, ← Nat.two_pow_add_eq_or_of_lt (show m < 2 ^ 32 by omega)]
  omega
theorem size_any (a : Int) (w : World) (h0 : -9223372036854775807 ≤ a) (h1 : a ≤ 9223372036854775807) :
    Calls Try.prog 72 #[.int .i64 a] w fun e w' => e = .returned (.int .u64 (iabs a)) ∧ w = w' := by
  by_cases h : a < 0
  · have hq : Hid (iabs a = -a) := by show iabs a = _; unfold iabs; rw [if_pos h]
    go_enter Try.func72, Try.ntmps72
    go_wp2
    go_ret
    exact ⟨congrArg Ending.returned (congrArg (Value.int .u64) (by rw [hq.out]; omega)), rfl⟩
  · have hq : Hid (iabs a = a) := by show iabs a = _; unfold iabs; rw [if_neg h]
    go_enter Try.func72, Try.ntmps72
    go_wp2
    go_ret
    exact ⟨congrArg Ending.returned (congrArg (Value.int .u64) hq.out.symm), rfl⟩
/-- two numbers below 2^32. -/
theorem mm {x y : Int} (h0 : 0 ≤ x) (h1 : x ≤ 4294967295) (h2 : 0 ≤ y) (h3 : y ≤ 4294967295) : 0 ≤ x * y ∧ x * y ≤ 18446744065119617025 := by
  have k : x * y ≤ 4294967295 * 4294967295 := Int.mul_le_mul h1 h3 h2 (by omega)
  exact ⟨Int.mul_nonneg h0 h2, by omega⟩
theorem prod_eq (a b a1 a0 b1 b0 : Int) (ha : a = a1 * 4294967296 + a0) (hb : b = b1 * 4294967296 + b0) : a * b = a1 * b1 * 18446744073709551616 + (a1 * b0 + a0 * b1) * 4294967296 + a0 * b0 := by
  rw [ha, hb]; grind
theorem prod_fin {p q r s P : Int} (h : P = s * 18446744073709551616 + (q + r) * 4294967296 + p) :
    s + (q + p / 4294967296) / 4294967296 + (r + (q + p / 4294967296) % 4294967296) / 4294967296 = P / 18446744073709551616 ∧ (r + (q + p / 4294967296) % 4294967296) % 4294967296 * 4294967296 + p % 4294967296 = P % 18446744073709551616 := by
  subst h; omega
abbrev TwoU (a b : Int) : Ending := .returned (.tuple #[.int .u64 a, .int .u64 b])
set_option maxHeartbeats 1600000 in
theorem product_any (a b : Int) (w : World) (h0 : 0 ≤ a) (h1 : a ≤ 9223372036854775807) (h2 : 0 ≤ b) (h3 : b ≤ 9223372036854775807) :
    Calls Try.prog 71 #[.int .u64 a, .int .u64 b] w fun e w' => e = TwoU (a * b / 18446744073709551616) (a * b % 18446744073709551616) ∧ w = w' := by
  have HE := Lib.hid (prod_eq a b (a / 4294967296) (a % 4294967296) (b / 4294967296) (b % 4294967296) (by omega) (by omega))
  have ea := and32 h0 (by omega)
  have eb := and32 h2 (by omega)
  have ⟨p0, p1⟩ := mm (x := a % 4294967296) (y := b % 4294967296) (by omega) (by omega) (by omega) (by omega)
  have ⟨q0, q1⟩ := mm (x := a / 4294967296) (y := b % 4294967296) (by omega) (by omega) (by omega) (by omega)
  have ⟨r0, r1⟩ := mm (x := a % 4294967296) (y := b / 4294967296) (by omega) (by omega) (by omega) (by omega)
  have ⟨s0, s1⟩ := mm (x := a / 4294967296) (y := b / 4294967296) (by omega) (by omega) (by omega) (by omega)
  have s2 : a / 4294967296 * (b / 4294967296) ≤ 4611686014132420609 := by
    have : a / 4294967296 * (b / 4294967296) ≤ 2147483647 * 2147483647 := Int.mul_le_mul (by omega) (by omega) (by omega) (by omega)
    omega
  have el := and32 p0 (by omega)
  have em := and32 (x := a / 4294967296 * (b % 4294967296) + a % 4294967296 * (b % 4294967296) / 4294967296) (by omega) (by omega)
  have HN : Hid (∀ n l : Int, 0 ≤ n → 0 ≤ l → l < 4294967296 → bits .or .u64 (IntKind.u64.wrap (n * 4294967296)) l = n % 4294967296 * 4294967296 + l) := fun n l hn l0 l1 => by
    rw [IntKind.wrap_u64, show n * 4294967296 % 18446744073709551616 = n % 4294967296 * 4294967296 by omega]
    exact or32 (by omega) (by omega) l0 l1
  go_enter Try.func71, Try.ntmps71
  go_wp2
  go_ret2
  have ⟨f1, f2⟩ := prod_fin HE.out
  refine ⟨?_, rfl⟩
  rw [← f1, ← f2, ← HN.out _ _ (by omega) (by omega) (by omega)]
  rfl
theorem or1 {h l : Int} (h0 : 0 ≤ h) (h1 : h < 9223372036854775808) (l0 : 0 ≤ l) (l1 : l < 2) : bits .or .u64 (h * 2) l = h * 2 + l := by
  obtain ⟨n, rfl⟩ := Int.eq_ofNat_of_zero_le h0
  obtain ⟨m, rfl⟩ := Int.eq_ofNat_of_zero_le l0
  have e0 : (n : Int) * 2 = ((2 ^ 1 * n : Nat) : Int) := by omega
  rw [e0]
  have e1 : (BitVec.ofInt 64 ((2 ^ 1 * n : Nat) : Int)).toNat = 2 ^ 1 * n := by
    rw [BitVec.ofInt_natCast, BitVec.toNat_ofNat]; exact Nat.mod_eq_of_lt (by omega)
  have e2 : (BitVec.ofInt 64 (m : Int)).toNat = m := by
    rw [BitVec.ofInt_natCast, BitVec.toNat_ofNat]; exact Nat.mod_eq_of_lt (by omega)
  show IntKind.u64.wrap ((BitVec.ofInt 64 ((2 ^ 1 * n : Nat) : Int) ||| BitVec.ofInt 64 (m : Int)).toNat : Int) = _
  rw [BitVec.toNat_or, e1, e2, IntKind.wrap_u64, ← Nat.two_pow_add_eq_or_of_lt (show m < 2 ^ 1 by omega)]
  omega

theorem or1b {l : Int} (h0 : 0 ≤ l) (h1 : l < 9223372036854775808) : bits .or .u64 (l * 2) 1 = l * 2 + 1 := or1 h0 h1 (by omega) (by omega)
abbrev ThreeU (a b c : Int) : Ending := .returned (.tuple #[.int .u64 a, .int .u64 b, .int .u64 c])
def DivEnd (N c : Int) (e : Ending) : Prop := ∃ qh ql, e = ThreeU qh ql (N % c) ∧ qh * 18446744073709551616 + ql = N / c ∧ 0 ≤ qh ∧ 0 ≤ ql ∧ ql < 18446744073709551616
set_option maxHeartbeats 3200000 in
set_option maxRecDepth 100000 in
theorem divide_any (N c : Int) (w : World) (h0 : 0 ≤ N) (h1 : N ≤ 85070591730234615865843651857942052864) (c0 : 1 ≤ c) (c1 : c ≤ 9223372036854775807) :
    Calls Try.prog 73 #[.int .u64 (N / 18446744073709551616), .int .u64 (N % 18446744073709551616), .int .u64 c] w fun e w' => DivEnd N c e ∧ w = w' := by
  have HS := Lib.hid (Dv.start h0 (by omega) c0)
  have HN := Lib.hid (show 0 ≤ N ∧ N ≤ 85070591730234615865843651857942052864 from ⟨h0, h1⟩)
  clear h0 h1
  generalize N / 18446744073709551616 = H at *
  generalize N % 18446744073709551616 = L at *
  go_enter Try.func73, Try.ntmps73
  go_wp2
  go_loop [0, 1, 6, 7, 8, 9] (fun hi lo qh ql r i => ∃ (k : Nat) (a b x y z : Int), k ≤ 128 ∧ hi = .int .u64 a ∧ lo = .int .u64 b ∧ qh = .int .u64 x ∧ ql = .int .u64 y ∧ r = .int .u64 z ∧ i = .int .i64 k ∧ Dv N c k a b x y z) (fun _ _ _ _ _ i => 128 - (intOf i).toNat)
  case atStart => exact ⟨0, _, _, _, _, _, by omega, rfl, rfl, rfl, rfl, rfl, rfl, HS.out⟩
  case round =>
    obtain ⟨k, a, b, x, y, z, hk, rfl, rfl, rfl, rfl, rfl, rfl, hd⟩ := hrel
    have ⟨a0, a1⟩ := And.intro hd.h0 hd.h1
    have ⟨b0, b1⟩ := And.intro hd.l0 hd.l1
    have ⟨y0, y1⟩ := And.intro hd.b0 hd.b1
    have ⟨z0, z1⟩ := And.intro hd.r0 hd.r1
    have x0 := hd.a0
    have HD := Lib.hid hd
    by_cases hlt : k < 128
    · have x1 := hd.qh HN.out.1 HN.out.2 (by omega) c0
      clear hd
      have er := or1 (h := z) (l := a / 9223372036854775808) z0 (by omega) (by omega) (by omega)
      have eq := or1 (h := x) (l := y / 9223372036854775808) x0 (by omega) (by omega) (by omega)
      have eh : bits .or .u64 (IntKind.u64.wrap (a * 2)) (b / 9223372036854775808) = a * 2 % 18446744073709551616 + b / 9223372036854775808 := by
        rw [IntKind.wrap_u64, show a * 2 % 18446744073709551616 = a % 9223372036854775808 * 2 by omega]
        exact or1 (by omega) (by omega) (by omega) (by omega)
      have el : bits .or .u64 (IntKind.u64.wrap (y * 2)) 1 = y * 2 % 18446744073709551616 + 1 := by
        rw [IntKind.wrap_u64, show y * 2 % 18446744073709551616 = y % 9223372036854775808 * 2 by omega]
        exact or1 (by omega) (by omega) (by omega) (by omega)
      have t0 : (z / 9223372036854775808 == 1) = false := by rw [beq_eq_false_iff_ne]; omega
      have ⟨S1, S2⟩ := HD.out.step
      have HS1 := Lib.hid S1
      have HS2 := Lib.hid S2
      have HW1 := Lib.hid (IntKind.wrap_u64 (b * 2))
      have HW2 := Lib.hid (IntKind.wrap_u64 (y * 2))
      clear S1 S2
      by_cases ht : c ≤ z * 2 + a / 9223372036854775808
      · go_wp2
        go_round
        case rel => exact ⟨k + 1, _, _, _, _, _, by omega, rfl, by rw [HW1.out], rfl, rfl, rfl, by go_num, HS2.out (by omega)⟩
        case measure => simp [intOf]; omega
      · go_wp2
        go_round
        case rel => exact ⟨k + 1, _, _, _, _, _, by omega, rfl, by rw [HW1.out], rfl, by rw [HW2.out], rfl, by go_num, HS1.out (by omega)⟩
        case measure => simp [intOf]; omega
    · obtain rfl : k = 128 := by omega
      have HF := Lib.hid (hd.fin c0)
      clear hd
      go_wp2
      go_ret3
      exact ⟨⟨x, y, by rw [← HF.out.2]; rfl, HF.out.1, x0, y0, y1⟩, rfl⟩
end Go.Proofs.Ytgabdnabcpdinaa
