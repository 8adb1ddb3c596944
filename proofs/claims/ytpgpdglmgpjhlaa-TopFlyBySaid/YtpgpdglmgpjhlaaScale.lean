/- Package fixed: scale, where the product fits into 64 bits. -/
import Derived.Test.YtpgpdglmgpjhlaaQuot2
namespace Go.Proofs.Ytpgpdglmgpjhlaa
open Go.RowKit Fdk
set_option linter.unusedVariables false

theorem fsize_any (a : Int) (w : World) (h0 : -9223372036854775807 ≤ a) (h1 : a ≤ 9223372036854775807) :
    Calls Try.prog 44 #[.int .i64 a] w fun e w' => e = .returned (.int .u64 (iabs a)) ∧ w = w' := by
  by_cases h : a < 0
  · have hq : Hid (iabs a = -a) := by show iabs a = _; unfold iabs; rw [if_pos h]
    have e1 : IntKind.u64.wrap (-(IntKind.u64.wrap a)) = -a := by rw [IntKind.wrap_u64, IntKind.wrap_u64]; omega
    go_enter Try.func44, Try.ntmps44
    go_wp2
    go_ret
    exact ⟨congrArg Ending.returned (congrArg (Value.int .u64) (by first | exact hq.out.symm | (rw [hq.out]; exact e1) | (rw [hq.out]; omega))), rfl⟩
  · have hq : Hid (iabs a = a) := by show iabs a = _; unfold iabs; rw [if_neg h]
    go_enter Try.func44, Try.ntmps44
    go_wp2
    go_ret
    exact ⟨congrArg Ending.returned (congrArg (Value.int .u64) hq.out.symm), rfl⟩
set_option maxHeartbeats 1600000 in
theorem mul64_any (a b : Int) (w : World) (h0 : 0 ≤ a) (h1 : a ≤ 9223372036854775807) (h2 : 0 ≤ b) (h3 : b ≤ 9223372036854775807) :
    Calls Try.prog 45 #[.int .u64 a, .int .u64 b] w fun e w' => e = TwoU (a * b / 18446744073709551616) (a * b % 18446744073709551616) ∧ w = w' := by
  have HE := Lib.hid (prod_eq a b (a / 4294967296) (a % 4294967296) (b / 4294967296) (b % 4294967296) (by omega) (by omega))
  have ea := and32 h0 (by omega)
  have eb := and32 h2 (by omega)
  have ⟨p0, p1⟩ := mm (x := a % 4294967296) (y := b % 4294967296) (by omega) (by omega) (by omega) (by omega)
  have ⟨q0, q1⟩ := mm (x := a / 4294967296) (y := b % 4294967296) (by omega) (by omega) (by omega) (by omega)
  have ⟨r0, r1⟩ := mm (x := a % 4294967296) (y := b / 4294967296) (by omega) (by omega) (by omega) (by omega)
  have ⟨s0, s1⟩ := mm (x := a / 4294967296) (y := b / 4294967296) (by omega) (by omega) (by omega) (by omega)
  have s2 : a / 4294967296 * (b / 4294967296) ≤ 4611686014132420609 := by
    have : a / 4294967296 * (b / 4294967296) ≤ 2147483647 * 2147483647 := Int.mul_le_mul (by omega) (by omega) (by omega) (by omega)
    omega
  have em := and32 (x := a / 4294967296 * (b % 4294967296) + a % 4294967296 * (b % 4294967296) / 4294967296) (by omega) (by omega)
  have ew : IntKind.u64.wrap (a * b) = a * b % 18446744073709551616 := IntKind.wrap_u64 _
  go_enter Try.func45, Try.ntmps45
  go_wp2
  go_ret2
  have ⟨f1, f2⟩ := prod_fin HE.out
  refine ⟨?_, rfl⟩
  rw [← f1]
  first | rfl | (congr 5 <;> omega) | (simp; omega)
theorem div64_any (n y : Int) (w : World) (h0 : 0 ≤ n) (h1 : n < 18446744073709551616) (c0 : 1 ≤ y) (c1 : y ≤ 9223372036854775807) :
    Calls Try.prog 46 #[.int .u64 0, .int .u64 n, .int .u64 y] w fun e w' => e = TwoU (n / y) (n % y) ∧ Drew w w' := by
  have cz : (y == 0) = false := by rw [beq_eq_false_iff_ne]; omega
  have q0 : 0 ≤ n / y := Int.ediv_nonneg h0 (by omega)
  have q1 : n / y ≤ n := Int.ediv_le_self _ h0
  have r0 : 0 ≤ n % y := Int.emod_nonneg _ (by omega)
  have r1 : n % y < y := Int.emod_lt_of_pos _ (by omega)
  have t0 : n.tdiv y = n / y := Int.tdiv_eq_ediv_of_nonneg h0
  have t1 : n.tmod y = n % y := Int.tmod_eq_emod_of_nonneg h0
  go_enter Try.func46, Try.ntmps46
  go_wp2
  go_quiet (fail)
  go_wp2
  go_ret2
  exact ⟨rfl, _, rfl⟩
theorem signed_p (n : Int) (w : World) (h0 : 0 ≤ n) (h1 : n ≤ 4611686018427387905) :
    Calls Try.prog 47 #[.int .u64 n, .bool false] w fun e w' => e = TwoI n 0 ∧ w = w' := by
  go_enter Try.func47, Try.ntmps47
  go_wp2
  go_ret2
  exact ⟨rfl, rfl⟩
theorem signed_n (n : Int) (w : World) (h0 : 0 ≤ n) (h1 : n ≤ 4611686018427387905) :
    Calls Try.prog 47 #[.int .u64 n, .bool true] w fun e w' => e = TwoI (-n) 0 ∧ w = w' := by
  have e1 : wrap64 (IntKind.u64.wrap (-n)) = -n := by rw [IntKind.wrap_u64]; unfold wrap64; omega
  go_enter Try.func47, Try.ntmps47
  go_wp2
  go_ret2
  exact ⟨by first | exact ti e1 | rfl | (congr 4; omega), rfl⟩

set_option maxHeartbeats 3200000 in
set_option maxRecDepth 100000 in
theorem scale2_pp (a b c : Int) (w : World) (h0 : -9223372036854775807 ≤ a) (h1 : a ≤ 9223372036854775807) (h2 : -9223372036854775807 ≤ b) (h3 : b ≤ 9223372036854775807) (c0 : 1 ≤ c) (c1 : c ≤ 9223372036854775807)
    (hs : iabs a * iabs b < 18446744073709551616) (hq : iabs a * iabs b / c ≤ 4611686018427387904) (sa : decide (a < 0) = false) (sb : decide (b < 0) = false) (hp : a * b = (iabs a * iabs b)) :
    Calls Try.prog 35 #[.int .i64 a, .int .i64 b, .int .i64 c, .int .u8 2] w fun e w' => e = TwoI (qnear (a * b) c) 0 ∧ Drew w w' := by
  have ⟨a0, a1, b0, b1, p0, p1⟩ := iabs_mul h0 h1 h2 h3
  have HP := Lib.hid hp
  clear hp
  have ec : iabs c = c := by unfold iabs; rw [if_neg (by omega)]
  have sc : decide (c < 0) = false := lt_dec.1 (by omega)
  have cz : (c == 0) = false := by rw [beq_eq_false_iff_ne]; omega
  have z0 : iabs a * iabs b / 18446744073709551616 = 0 := by omega
  have z1 : iabs a * iabs b % 18446744073709551616 = iabs a * iabs b := by omega
  go_enter Try.func35, Try.ntmps35
  go_wp2_with fail
  refine (fsize_any _ _ (by omega) (by omega)).mono ?_
  rintro e w' ⟨rfl, rfl⟩
  rw [ec]
  go_wp2_with (first | (go_at_call 44; refine (fsize_any _ _ (by omega) (by omega)).mono ?_; rintro e w' ⟨rfl, rfl⟩) | (go_at_call 45; refine (mul64_any _ _ _ a0 a1 b0 b1).mono ?_; rintro e w' ⟨rfl, rfl⟩; rw [z0, z1]))
  generalize iabs a * iabs b = P at *
  clear z0 z1
  refine (div64_any P c _ p0 (by omega) c0 c1).mono ?_
  rintro e w1 ⟨rfl, hd⟩
  have HD := Lib.hid hd
  clear hd
  have r0 : 0 ≤ P % c := Int.emod_nonneg _ (by omega)
  have r1 : P % c < c := Int.emod_lt_of_pos _ (by omega)
  have q0 : 0 ≤ P / c := Int.ediv_nonneg p0 (by omega)
  have HV := Lib.hid (qd_pos (P := P) (Q := P / c) (r := P % c) c0 rfl rfl)
  have zz : (P / c == 18446744073709551615) = false := by rw [beq_eq_false_iff_ne]; omega
  generalize P / c = ql at *
  generalize P % c = r at *
  by_cases hm : c - r < r
  · have HM : Hid (c - r < r ∨ r = c - r) := Lib.hid (.inl hm)
    have HR := HM
    have b3 : (r == c - r) = false := by rw [beq_eq_false_iff_ne]; omega
    go_wp2_with (first | (go_at_call 47; refine (signed_p _ _ (by omega) (by omega)).mono ?_; rintro e w' ⟨rfl, rfl⟩))
    go_ret2
    exact ⟨ti (by have h := HV.out.2.2; (first | rw [if_pos HR.out] at h | rw [if_neg HR.out] at h | skip); (first | rw [if_pos HM.out] at h | rw [if_neg HM.out] at h | rw [if_neg (by have := HM.out; omega)] at h | skip); rw [HP.out]; exact h.symm), HD.out⟩
  · by_cases hm2 : r = c - r
    · have HM : Hid ((c - r < r ∨ r = c - r)) := Lib.hid (.inr hm2)
      have HR := HM
      have b3 : (r == c - r) = true := by rw [beq_iff_eq]; exact hm2
      have hm3 := Lib.hid hm2
      clear hm2
      go_wp2_with (first | (go_at_call 47; refine (signed_p _ _ (by omega) (by omega)).mono ?_; rintro e w' ⟨rfl, rfl⟩))
      go_ret2
      exact ⟨ti (by have h := HV.out.2.2; (first | rw [if_pos HR.out] at h | rw [if_neg HR.out] at h | skip); (first | rw [if_pos HM.out] at h | rw [if_neg HM.out] at h | rw [if_neg (by have := HM.out; omega)] at h | skip); rw [HP.out]; exact h.symm), HD.out⟩
    · have HM : Hid (¬ (c - r < r ∨ r = c - r)) := Lib.hid (by omega)
      have HR := HM
      have b3 : (r == c - r) = false := by rw [beq_eq_false_iff_ne]; exact hm2
      go_wp2_with (first | (go_at_call 47; refine (signed_p _ _ (by omega) (by omega)).mono ?_; rintro e w' ⟨rfl, rfl⟩))
      go_ret2
      exact ⟨ti (by have h := HV.out.2.2; (first | rw [if_pos HR.out] at h | rw [if_neg HR.out] at h | skip); (first | rw [if_pos HM.out] at h | rw [if_neg HM.out] at h | rw [if_neg (by have := HM.out; omega)] at h | skip); rw [HP.out]; exact h.symm), HD.out⟩
set_option maxHeartbeats 3200000 in
set_option maxRecDepth 100000 in
theorem scale2_pn (a b c : Int) (w : World) (h0 : -9223372036854775807 ≤ a) (h1 : a ≤ 9223372036854775807) (h2 : -9223372036854775807 ≤ b) (h3 : b ≤ 9223372036854775807) (c0 : 1 ≤ c) (c1 : c ≤ 9223372036854775807)
    (hs : iabs a * iabs b < 18446744073709551616) (hq : iabs a * iabs b / c ≤ 4611686018427387904) (sa : decide (a < 0) = false) (sb : decide (b < 0) = true) (hp : a * b = -(iabs a * iabs b)) :
    Calls Try.prog 35 #[.int .i64 a, .int .i64 b, .int .i64 c, .int .u8 2] w fun e w' => e = TwoI (qnear (a * b) c) 0 ∧ Drew w w' := by
  have ⟨a0, a1, b0, b1, p0, p1⟩ := iabs_mul h0 h1 h2 h3
  have HP := Lib.hid hp
  clear hp
  have ec : iabs c = c := by unfold iabs; rw [if_neg (by omega)]
  have sc : decide (c < 0) = false := lt_dec.1 (by omega)
  have cz : (c == 0) = false := by rw [beq_eq_false_iff_ne]; omega
  have z0 : iabs a * iabs b / 18446744073709551616 = 0 := by omega
  have z1 : iabs a * iabs b % 18446744073709551616 = iabs a * iabs b := by omega
  go_enter Try.func35, Try.ntmps35
  go_wp2_with fail
  refine (fsize_any _ _ (by omega) (by omega)).mono ?_
  rintro e w' ⟨rfl, rfl⟩
  rw [ec]
  go_wp2_with (first | (go_at_call 44; refine (fsize_any _ _ (by omega) (by omega)).mono ?_; rintro e w' ⟨rfl, rfl⟩) | (go_at_call 45; refine (mul64_any _ _ _ a0 a1 b0 b1).mono ?_; rintro e w' ⟨rfl, rfl⟩; rw [z0, z1]))
  generalize iabs a * iabs b = P at *
  clear z0 z1
  refine (div64_any P c _ p0 (by omega) c0 c1).mono ?_
  rintro e w1 ⟨rfl, hd⟩
  have HD := Lib.hid hd
  clear hd
  have r0 : 0 ≤ P % c := Int.emod_nonneg _ (by omega)
  have r1 : P % c < c := Int.emod_lt_of_pos _ (by omega)
  have q0 : 0 ≤ P / c := Int.ediv_nonneg p0 (by omega)
  have HV := Lib.hid (qd_neg (P := P) (Q := P / c) (r := P % c) c0 rfl rfl)
  have zz : (P / c == 18446744073709551615) = false := by rw [beq_eq_false_iff_ne]; omega
  generalize P / c = ql at *
  generalize P % c = r at *
  by_cases hm : c - r < r
  · have HM : Hid (c - r < r) := Lib.hid (hm)
    have HR := HM
    have b3 : (r == c - r) = false := by rw [beq_eq_false_iff_ne]; omega
    go_wp2_with (first | (go_at_call 47; refine (signed_n _ _ (by omega) (by omega)).mono ?_; rintro e w' ⟨rfl, rfl⟩))
    go_ret2
    exact ⟨ti (by have h := HV.out.2.2; (first | rw [if_pos HR.out] at h | rw [if_neg HR.out] at h | skip); (first | rw [if_pos HM.out] at h | rw [if_neg HM.out] at h | rw [if_neg (by have := HM.out; omega)] at h | skip); rw [HP.out]; exact h.symm), HD.out⟩
  · by_cases hm2 : r = c - r
    · have HM : Hid (¬ (c - r < r)) := Lib.hid (hm)
      have HR := HM
      have b3 : (r == c - r) = true := by rw [beq_iff_eq]; exact hm2
      have hm3 := Lib.hid hm2
      clear hm2
      go_wp2_with (first | (go_at_call 47; refine (signed_n _ _ (by omega) (by omega)).mono ?_; rintro e w' ⟨rfl, rfl⟩))
      go_ret2
      exact ⟨ti (by have h := HV.out.2.2; (first | rw [if_pos HR.out] at h | rw [if_neg HR.out] at h | skip); (first | rw [if_pos HM.out] at h | rw [if_neg HM.out] at h | rw [if_neg (by have := HM.out; omega)] at h | skip); rw [HP.out]; exact h.symm), HD.out⟩
    · have HM : Hid (¬ (c - r < r)) := Lib.hid (by omega)
      have HR := HM
      have b3 : (r == c - r) = false := by rw [beq_eq_false_iff_ne]; exact hm2
      go_wp2_with (first | (go_at_call 47; refine (signed_n _ _ (by omega) (by omega)).mono ?_; rintro e w' ⟨rfl, rfl⟩))
      go_ret2
      exact ⟨ti (by have h := HV.out.2.2; (first | rw [if_pos HR.out] at h | rw [if_neg HR.out] at h | skip); (first | rw [if_pos HM.out] at h | rw [if_neg HM.out] at h | rw [if_neg (by have := HM.out; omega)] at h | skip); rw [HP.out]; exact h.symm), HD.out⟩
set_option maxHeartbeats 3200000 in
set_option maxRecDepth 100000 in
theorem scale2_np (a b c : Int) (w : World) (h0 : -9223372036854775807 ≤ a) (h1 : a ≤ 9223372036854775807) (h2 : -9223372036854775807 ≤ b) (h3 : b ≤ 9223372036854775807) (c0 : 1 ≤ c) (c1 : c ≤ 9223372036854775807)
    (hs : iabs a * iabs b < 18446744073709551616) (hq : iabs a * iabs b / c ≤ 4611686018427387904) (sa : decide (a < 0) = true) (sb : decide (b < 0) = false) (hp : a * b = -(iabs a * iabs b)) :
    Calls Try.prog 35 #[.int .i64 a, .int .i64 b, .int .i64 c, .int .u8 2] w fun e w' => e = TwoI (qnear (a * b) c) 0 ∧ Drew w w' := by
  have ⟨a0, a1, b0, b1, p0, p1⟩ := iabs_mul h0 h1 h2 h3
  have HP := Lib.hid hp
  clear hp
  have ec : iabs c = c := by unfold iabs; rw [if_neg (by omega)]
  have sc : decide (c < 0) = false := lt_dec.1 (by omega)
  have cz : (c == 0) = false := by rw [beq_eq_false_iff_ne]; omega
  have z0 : iabs a * iabs b / 18446744073709551616 = 0 := by omega
  have z1 : iabs a * iabs b % 18446744073709551616 = iabs a * iabs b := by omega
  go_enter Try.func35, Try.ntmps35
  go_wp2_with fail
  refine (fsize_any _ _ (by omega) (by omega)).mono ?_
  rintro e w' ⟨rfl, rfl⟩
  rw [ec]
  go_wp2_with (first | (go_at_call 44; refine (fsize_any _ _ (by omega) (by omega)).mono ?_; rintro e w' ⟨rfl, rfl⟩) | (go_at_call 45; refine (mul64_any _ _ _ a0 a1 b0 b1).mono ?_; rintro e w' ⟨rfl, rfl⟩; rw [z0, z1]))
  generalize iabs a * iabs b = P at *
  clear z0 z1
  refine (div64_any P c _ p0 (by omega) c0 c1).mono ?_
  rintro e w1 ⟨rfl, hd⟩
  have HD := Lib.hid hd
  clear hd
  have r0 : 0 ≤ P % c := Int.emod_nonneg _ (by omega)
  have r1 : P % c < c := Int.emod_lt_of_pos _ (by omega)
  have q0 : 0 ≤ P / c := Int.ediv_nonneg p0 (by omega)
  have HV := Lib.hid (qd_neg (P := P) (Q := P / c) (r := P % c) c0 rfl rfl)
  have zz : (P / c == 18446744073709551615) = false := by rw [beq_eq_false_iff_ne]; omega
  generalize P / c = ql at *
  generalize P % c = r at *
  by_cases hm : c - r < r
  · have HM : Hid (c - r < r) := Lib.hid (hm)
    have HR := HM
    have b3 : (r == c - r) = false := by rw [beq_eq_false_iff_ne]; omega
    go_wp2_with (first | (go_at_call 47; refine (signed_n _ _ (by omega) (by omega)).mono ?_; rintro e w' ⟨rfl, rfl⟩))
    go_ret2
    exact ⟨ti (by have h := HV.out.2.2; (first | rw [if_pos HR.out] at h | rw [if_neg HR.out] at h | skip); (first | rw [if_pos HM.out] at h | rw [if_neg HM.out] at h | rw [if_neg (by have := HM.out; omega)] at h | skip); rw [HP.out]; exact h.symm), HD.out⟩
  · by_cases hm2 : r = c - r
    · have HM : Hid (¬ (c - r < r)) := Lib.hid (hm)
      have HR := HM
      have b3 : (r == c - r) = true := by rw [beq_iff_eq]; exact hm2
      have hm3 := Lib.hid hm2
      clear hm2
      go_wp2_with (first | (go_at_call 47; refine (signed_n _ _ (by omega) (by omega)).mono ?_; rintro e w' ⟨rfl, rfl⟩))
      go_ret2
      exact ⟨ti (by have h := HV.out.2.2; (first | rw [if_pos HR.out] at h | rw [if_neg HR.out] at h | skip); (first | rw [if_pos HM.out] at h | rw [if_neg HM.out] at h | rw [if_neg (by have := HM.out; omega)] at h | skip); rw [HP.out]; exact h.symm), HD.out⟩
    · have HM : Hid (¬ (c - r < r)) := Lib.hid (by omega)
      have HR := HM
      have b3 : (r == c - r) = false := by rw [beq_eq_false_iff_ne]; exact hm2
      go_wp2_with (first | (go_at_call 47; refine (signed_n _ _ (by omega) (by omega)).mono ?_; rintro e w' ⟨rfl, rfl⟩))
      go_ret2
      exact ⟨ti (by have h := HV.out.2.2; (first | rw [if_pos HR.out] at h | rw [if_neg HR.out] at h | skip); (first | rw [if_pos HM.out] at h | rw [if_neg HM.out] at h | rw [if_neg (by have := HM.out; omega)] at h | skip); rw [HP.out]; exact h.symm), HD.out⟩
set_option maxHeartbeats 3200000 in
set_option maxRecDepth 100000 in
theorem scale2_nn (a b c : Int) (w : World) (h0 : -9223372036854775807 ≤ a) (h1 : a ≤ 9223372036854775807) (h2 : -9223372036854775807 ≤ b) (h3 : b ≤ 9223372036854775807) (c0 : 1 ≤ c) (c1 : c ≤ 9223372036854775807)
    (hs : iabs a * iabs b < 18446744073709551616) (hq : iabs a * iabs b / c ≤ 4611686018427387904) (sa : decide (a < 0) = true) (sb : decide (b < 0) = true) (hp : a * b = (iabs a * iabs b)) :
    Calls Try.prog 35 #[.int .i64 a, .int .i64 b, .int .i64 c, .int .u8 2] w fun e w' => e = TwoI (qnear (a * b) c) 0 ∧ Drew w w' := by
  have ⟨a0, a1, b0, b1, p0, p1⟩ := iabs_mul h0 h1 h2 h3
  have HP := Lib.hid hp
  clear hp
  have ec : iabs c = c := by unfold iabs; rw [if_neg (by omega)]
  have sc : decide (c < 0) = false := lt_dec.1 (by omega)
  have cz : (c == 0) = false := by rw [beq_eq_false_iff_ne]; omega
  have z0 : iabs a * iabs b / 18446744073709551616 = 0 := by omega
  have z1 : iabs a * iabs b % 18446744073709551616 = iabs a * iabs b := by omega
  go_enter Try.func35, Try.ntmps35
  go_wp2_with fail
  refine (fsize_any _ _ (by omega) (by omega)).mono ?_
  rintro e w' ⟨rfl, rfl⟩
  rw [ec]
  go_wp2_with (first | (go_at_call 44; refine (fsize_any _ _ (by omega) (by omega)).mono ?_; rintro e w' ⟨rfl, rfl⟩) | (go_at_call 45; refine (mul64_any _ _ _ a0 a1 b0 b1).mono ?_; rintro e w' ⟨rfl, rfl⟩; rw [z0, z1]))
  generalize iabs a * iabs b = P at *
  clear z0 z1
  refine (div64_any P c _ p0 (by omega) c0 c1).mono ?_
  rintro e w1 ⟨rfl, hd⟩
  have HD := Lib.hid hd
  clear hd
  have r0 : 0 ≤ P % c := Int.emod_nonneg _ (by omega)
  have r1 : P % c < c := Int.emod_lt_of_pos _ (by omega)
  have q0 : 0 ≤ P / c := Int.ediv_nonneg p0 (by omega)
  have HV := Lib.hid (qd_pos (P := P) (Q := P / c) (r := P % c) c0 rfl rfl)
  have zz : (P / c == 18446744073709551615) = false := by rw [beq_eq_false_iff_ne]; omega
  generalize P / c = ql at *
  generalize P % c = r at *
  by_cases hm : c - r < r
  · have HM : Hid (c - r < r ∨ r = c - r) := Lib.hid (.inl hm)
    have HR := HM
    have b3 : (r == c - r) = false := by rw [beq_eq_false_iff_ne]; omega
    go_wp2_with (first | (go_at_call 47; refine (signed_p _ _ (by omega) (by omega)).mono ?_; rintro e w' ⟨rfl, rfl⟩))
    go_ret2
    exact ⟨ti (by have h := HV.out.2.2; (first | rw [if_pos HR.out] at h | rw [if_neg HR.out] at h | skip); (first | rw [if_pos HM.out] at h | rw [if_neg HM.out] at h | rw [if_neg (by have := HM.out; omega)] at h | skip); rw [HP.out]; exact h.symm), HD.out⟩
  · by_cases hm2 : r = c - r
    · have HM : Hid ((c - r < r ∨ r = c - r)) := Lib.hid (.inr hm2)
      have HR := HM
      have b3 : (r == c - r) = true := by rw [beq_iff_eq]; exact hm2
      have hm3 := Lib.hid hm2
      clear hm2
      go_wp2_with (first | (go_at_call 47; refine (signed_p _ _ (by omega) (by omega)).mono ?_; rintro e w' ⟨rfl, rfl⟩))
      go_ret2
      exact ⟨ti (by have h := HV.out.2.2; (first | rw [if_pos HR.out] at h | rw [if_neg HR.out] at h | skip); (first | rw [if_pos HM.out] at h | rw [if_neg HM.out] at h | rw [if_neg (by have := HM.out; omega)] at h | skip); rw [HP.out]; exact h.symm), HD.out⟩
    · have HM : Hid (¬ (c - r < r ∨ r = c - r)) := Lib.hid (by omega)
      have HR := HM
      have b3 : (r == c - r) = false := by rw [beq_eq_false_iff_ne]; exact hm2
      go_wp2_with (first | (go_at_call 47; refine (signed_p _ _ (by omega) (by omega)).mono ?_; rintro e w' ⟨rfl, rfl⟩))
      go_ret2
      exact ⟨ti (by have h := HV.out.2.2; (first | rw [if_pos HR.out] at h | rw [if_neg HR.out] at h | skip); (first | rw [if_pos HM.out] at h | rw [if_neg HM.out] at h | rw [if_neg (by have := HM.out; omega)] at h | skip); rw [HP.out]; exact h.symm), HD.out⟩
end Go.Proofs.Ytpgpdglmgpjhlaa
