/- Package fixed: scale, rounding up, where the product fits into 64 bits. -/
import Derived.Test.YtpgpdglmgpjhlaaScale
namespace Go.Proofs.Ytpgpdglmgpjhlaa
open Go.RowKit Fdk
set_option linter.unusedVariables false

set_option maxHeartbeats 3200000 in
set_option maxRecDepth 100000 in
theorem scale1_pp (a b c : Int) (w : World) (h0 : -9223372036854775807 ≤ a) (h1 : a ≤ 9223372036854775807) (h2 : -9223372036854775807 ≤ b) (h3 : b ≤ 9223372036854775807) (c0 : 1 ≤ c) (c1 : c ≤ 9223372036854775807)
    (hs : iabs a * iabs b < 18446744073709551616) (hq : iabs a * iabs b / c ≤ 4611686018427387904) (sa : decide (a < 0) = false) (sb : decide (b < 0) = false) (hp : a * b = (iabs a * iabs b)) :
    Calls Try.prog 35 #[.int .i64 a, .int .i64 b, .int .i64 c, .int .u8 1] w fun e w' => e = TwoI (qup (a * b) c) 0 ∧ Drew w w' := by
  have ⟨a0, a1, b0, b1, p0, p1⟩ := iabs_mul h0 h1 h2 h3
  have HP := Lib.hid hp
  clear hp
  have ec : iabs c = c := by unfold iabs; rw [if_neg (by omega)]
  have sc : decide (c < 0) = false := lt_dec.1 (by omega)
  have cz : (c == 0) = false := by rw [beq_eq_false_iff_ne]; omega
  have z0 : iabs a * iabs b / 18446744073709551616 = 0 := by omega
  have z1 : iabs a * iabs b % 18446744073709551616 = iabs a * iabs b := by omega
  go_enter Try.func35, Try.ntmps35
  go_wp2_with fail
  refine (fsize_any _ _ (by omega) (by omega)).mono ?_
  rintro e w' ⟨rfl, rfl⟩
  rw [ec]
  go_wp2_with (first | (go_at_call 44; refine (fsize_any _ _ (by omega) (by omega)).mono ?_; rintro e w' ⟨rfl, rfl⟩) | (go_at_call 45; refine (mul64_any _ _ _ a0 a1 b0 b1).mono ?_; rintro e w' ⟨rfl, rfl⟩; rw [z0, z1]))
  generalize iabs a * iabs b = P at *
  clear z0 z1
  refine (div64_any P c _ p0 (by omega) c0 c1).mono ?_
  rintro e w1 ⟨rfl, hd⟩
  have HD := Lib.hid hd
  clear hd
  have r0 : 0 ≤ P % c := Int.emod_nonneg _ (by omega)
  have r1 : P % c < c := Int.emod_lt_of_pos _ (by omega)
  have q0 : 0 ≤ P / c := Int.ediv_nonneg p0 (by omega)
  have HV := Lib.hid (qd_pos (P := P) (Q := P / c) (r := P % c) c0 rfl rfl)
  have zz : (P / c == 18446744073709551615) = false := by rw [beq_eq_false_iff_ne]; omega
  generalize P / c = ql at *
  generalize P % c = r at *
  by_cases hr : r = 0
  · have b1 : decide (r > 0) = false := decide_eq_false (by omega)
    have HR := Lib.hid hr
    have HM := HR
    clear hr
    go_wp2_with (first | (go_at_call 47; refine (signed_p _ _ (by omega) (by omega)).mono ?_; rintro e w' ⟨rfl, rfl⟩))
    go_ret2
    exact ⟨ti (by have h := HV.out.2.1; (first | rw [if_pos HR.out] at h | rw [if_neg HR.out] at h | skip); (first | rw [if_pos HM.out] at h | rw [if_neg HM.out] at h | rw [if_neg (by have := HM.out; omega)] at h | skip); rw [HP.out]; exact h.symm), HD.out⟩
  · have b1 : decide (r > 0) = true := decide_eq_true (by omega)
    have hpos : 0 < r := by omega
    have HR := Lib.hid hr
    have HM := HR
    clear hr
    go_wp2_with (first | (go_at_call 47; refine (signed_p _ _ (by omega) (by omega)).mono ?_; rintro e w' ⟨rfl, rfl⟩))
    go_ret2
    exact ⟨ti (by have h := HV.out.2.1; (first | rw [if_pos HR.out] at h | rw [if_neg HR.out] at h | skip); (first | rw [if_pos HM.out] at h | rw [if_neg HM.out] at h | rw [if_neg (by have := HM.out; omega)] at h | skip); rw [HP.out]; exact h.symm), HD.out⟩
set_option maxHeartbeats 3200000 in
set_option maxRecDepth 100000 in
theorem scale1_pn (a b c : Int) (w : World) (h0 : -9223372036854775807 ≤ a) (h1 : a ≤ 9223372036854775807) (h2 : -9223372036854775807 ≤ b) (h3 : b ≤ 9223372036854775807) (c0 : 1 ≤ c) (c1 : c ≤ 9223372036854775807)
    (hs : iabs a * iabs b < 18446744073709551616) (hq : iabs a * iabs b / c ≤ 4611686018427387904) (sa : decide (a < 0) = false) (sb : decide (b < 0) = true) (hp : a * b = -(iabs a * iabs b)) :
    Calls Try.prog 35 #[.int .i64 a, .int .i64 b, .int .i64 c, .int .u8 1] w fun e w' => e = TwoI (qup (a * b) c) 0 ∧ Drew w w' := by
  have ⟨a0, a1, b0, b1, p0, p1⟩ := iabs_mul h0 h1 h2 h3
  have HP := Lib.hid hp
  clear hp
  have ec : iabs c = c := by unfold iabs; rw [if_neg (by omega)]
  have sc : decide (c < 0) = false := lt_dec.1 (by omega)
  have cz : (c == 0) = false := by rw [beq_eq_false_iff_ne]; omega
  have z0 : iabs a * iabs b / 18446744073709551616 = 0 := by omega
  have z1 : iabs a * iabs b % 18446744073709551616 = iabs a * iabs b := by omega
  go_enter Try.func35, Try.ntmps35
  go_wp2_with fail
  refine (fsize_any _ _ (by omega) (by omega)).mono ?_
  rintro e w' ⟨rfl, rfl⟩
  rw [ec]
  go_wp2_with (first | (go_at_call 44; refine (fsize_any _ _ (by omega) (by omega)).mono ?_; rintro e w' ⟨rfl, rfl⟩) | (go_at_call 45; refine (mul64_any _ _ _ a0 a1 b0 b1).mono ?_; rintro e w' ⟨rfl, rfl⟩; rw [z0, z1]))
  generalize iabs a * iabs b = P at *
  clear z0 z1
  refine (div64_any P c _ p0 (by omega) c0 c1).mono ?_
  rintro e w1 ⟨rfl, hd⟩
  have HD := Lib.hid hd
  clear hd
  have r0 : 0 ≤ P % c := Int.emod_nonneg _ (by omega)
  have r1 : P % c < c := Int.emod_lt_of_pos _ (by omega)
  have q0 : 0 ≤ P / c := Int.ediv_nonneg p0 (by omega)
  have HV := Lib.hid (qd_neg (P := P) (Q := P / c) (r := P % c) c0 rfl rfl)
  have zz : (P / c == 18446744073709551615) = false := by rw [beq_eq_false_iff_ne]; omega
  generalize P / c = ql at *
  generalize P % c = r at *
  by_cases hr : r = 0
  · have b1 : decide (r > 0) = false := decide_eq_false (by omega)
    have HR := Lib.hid hr
    have HM := HR
    clear hr
    go_wp2_with (first | (go_at_call 47; refine (signed_n _ _ (by omega) (by omega)).mono ?_; rintro e w' ⟨rfl, rfl⟩))
    go_ret2
    exact ⟨ti (by have h := HV.out.2.1; (first | rw [if_pos HR.out] at h | rw [if_neg HR.out] at h | skip); (first | rw [if_pos HM.out] at h | rw [if_neg HM.out] at h | rw [if_neg (by have := HM.out; omega)] at h | skip); rw [HP.out]; exact h.symm), HD.out⟩
  · have b1 : decide (r > 0) = true := decide_eq_true (by omega)
    have hpos : 0 < r := by omega
    have HR := Lib.hid hr
    have HM := HR
    clear hr
    go_wp2_with (first | (go_at_call 47; refine (signed_n _ _ (by omega) (by omega)).mono ?_; rintro e w' ⟨rfl, rfl⟩))
    go_ret2
    exact ⟨ti (by have h := HV.out.2.1; (first | rw [if_pos HR.out] at h | rw [if_neg HR.out] at h | skip); (first | rw [if_pos HM.out] at h | rw [if_neg HM.out] at h | rw [if_neg (by have := HM.out; omega)] at h | skip); rw [HP.out]; exact h.symm), HD.out⟩
set_option maxHeartbeats 3200000 in
set_option maxRecDepth 100000 in
theorem scale1_np (a b c : Int) (w : World) (h0 : -9223372036854775807 ≤ a) (h1 : a ≤ 9223372036854775807) (h2 : -9223372036854775807 ≤ b) (h3 : b ≤ 9223372036854775807) (c0 : 1 ≤ c) (c1 : c ≤ 9223372036854775807)
    (hs : iabs a * iabs b < 18446744073709551616) (hq : iabs a * iabs b / c ≤ 4611686018427387904) (sa : decide (a < 0) = true) (sb : decide (b < 0) = false) (hp : a * b = -(iabs a * iabs b)) :
    Calls Try.prog 35 #[.int .i64 a, .int .i64 b, .int .i64 c, .int .u8 1] w fun e w' => e = TwoI (qup (a * b) c) 0 ∧ Drew w w' := by
  have ⟨a0, a1, b0, b1, p0, p1⟩ := iabs_mul h0 h1 h2 h3
  have HP := Lib.hid hp
  clear hp
  have ec : iabs c = c := by unfold iabs; rw [if_neg (by omega)]
  have sc : decide (c < 0) = false := lt_dec.1 (by omega)
  have cz : (c == 0) = false := by rw [beq_eq_false_iff_ne]; omega
  have z0 : iabs a * iabs b / 18446744073709551616 = 0 := by omega
  have z1 : iabs a * iabs b % 18446744073709551616 = iabs a * iabs b := by omega
  go_enter Try.func35, Try.ntmps35
  go_wp2_with fail
  refine (fsize_any _ _ (by omega) (by omega)).mono ?_
  rintro e w' ⟨rfl, rfl⟩
  rw [ec]
  go_wp2_with (first | (go_at_call 44; refine (fsize_any _ _ (by omega) (by omega)).mono ?_; rintro e w' ⟨rfl, rfl⟩) | (go_at_call 45; refine (mul64_any _ _ _ a0 a1 b0 b1).mono ?_; rintro e w' ⟨rfl, rfl⟩; rw [z0, z1]))
  generalize iabs a * iabs b = P at *
  clear z0 z1
  refine (div64_any P c _ p0 (by omega) c0 c1).mono ?_
  rintro e w1 ⟨rfl, hd⟩
  have HD := Lib.hid hd
  clear hd
  have r0 : 0 ≤ P % c := Int.emod_nonneg _ (by omega)
  have r1 : P % c < c := Int.emod_lt_of_pos _ (by omega)
  have q0 : 0 ≤ P / c := Int.ediv_nonneg p0 (by omega)
  have HV := Lib.hid (qd_neg (P := P) (Q := P / c) (r := P % c) c0 rfl rfl)
  have zz : (P / c == 18446744073709551615) = false := by rw [beq_eq_false_iff_ne]; omega
  generalize P / c = ql at *
  generalize P % c = r at *
  by_cases hr : r = 0
  · have b1 : decide (r > 0) = false := decide_eq_false (by omega)
    have HR := Lib.hid hr
    have HM := HR
    clear hr
    go_wp2_with (first | (go_at_call 47; refine (signed_n _ _ (by omega) (by omega)).mono ?_; rintro e w' ⟨rfl, rfl⟩))
    go_ret2
    exact ⟨ti (by have h := HV.out.2.1; (first | rw [if_pos HR.out] at h | rw [if_neg HR.out] at h | skip); (first | rw [if_pos HM.out] at h | rw [if_neg HM.out] at h | rw [if_neg (by have := HM.out; omega)] at h | skip); rw [HP.out]; exact h.symm), HD.out⟩
  · have b1 : decide (r > 0) = true := decide_eq_true (by omega)
    have hpos : 0 < r := by omega
    have HR := Lib.hid hr
    have HM := HR
    clear hr
    go_wp2_with (first | (go_at_call 47; refine (signed_n _ _ (by omega) (by omega)).mono ?_; rintro e w' ⟨rfl, rfl⟩))
    go_ret2
    exact ⟨ti (by have h := HV.out.2.1; (first | rw [if_pos HR.out] at h | rw [if_neg HR.out] at h | skip); (first | rw [if_pos HM.out] at h | rw [if_neg HM.out] at h | rw [if_neg (by have := HM.out; omega)] at h | skip); rw [HP.out]; exact h.symm), HD.out⟩
set_option maxHeartbeats 3200000 in
set_option maxRecDepth 100000 in
theorem scale1_nn (a b c : Int) (w : World) (h0 : -9223372036854775807 ≤ a) (h1 : a ≤ 9223372036854775807) (h2 : -9223372036854775807 ≤ b) (h3 : b ≤ 9223372036854775807) (c0 : 1 ≤ c) (c1 : c ≤ 9223372036854775807)
    (hs : iabs a * iabs b < 18446744073709551616) (hq : iabs a * iabs b / c ≤ 4611686018427387904) (sa : decide (a < 0) = true) (sb : decide (b < 0) = true) (hp : a * b = (iabs a * iabs b)) :
    Calls Try.prog 35 #[.int .i64 a, .int .i64 b, .int .i64 c, .int .u8 1] w fun e w' => e = TwoI (qup (a * b) c) 0 ∧ Drew w w' := by
  have ⟨a0, a1, b0, b1, p0, p1⟩ := iabs_mul h0 h1 h2 h3
  have HP := Lib.hid hp
  clear hp
  have ec : iabs c = c := by unfold iabs; rw [if_neg (by omega)]
  have sc : decide (c < 0) = false := lt_dec.1 (by omega)
  have cz : (c == 0) = false := by rw [beq_eq_false_iff_ne]; omega
  have z0 : iabs a * iabs b / 18446744073709551616 = 0 := by omega
  have z1 : iabs a * iabs b % 18446744073709551616 = iabs a * iabs b := by omega
  go_enter Try.func35, Try.ntmps35
  go_wp2_with fail
  refine (fsize_any _ _ (by omega) (by omega)).mono ?_
  rintro e w' ⟨rfl, rfl⟩
  rw [ec]
  go_wp2_with (first | (go_at_call 44; refine (fsize_any _ _ (by omega) (by omega)).mono ?_; rintro e w' ⟨rfl, rfl⟩) | (go_at_call 45; refine (mul64_any _ _ _ a0 a1 b0 b1).mono ?_; rintro e w' ⟨rfl, rfl⟩; rw [z0, z1]))
  generalize iabs a * iabs b = P at *
  clear z0 z1
  refine (div64_any P c _ p0 (by omega) c0 c1).mono ?_
  rintro e w1 ⟨rfl, hd⟩
  have HD := Lib.hid hd
  clear hd
  have r0 : 0 ≤ P % c := Int.emod_nonneg _ (by omega)
  have r1 : P % c < c := Int.emod_lt_of_pos _ (by omega)
  have q0 : 0 ≤ P / c := Int.ediv_nonneg p0 (by omega)
  have HV := Lib.hid (qd_pos (P := P) (Q := P / c) (r := P % c) c0 rfl rfl)
  have zz : (P / c == 18446744073709551615) = false := by rw [beq_eq_false_iff_ne]; omega
  generalize P / c = ql at *
  generalize P % c = r at *
  by_cases hr : r = 0
  · have b1 : decide (r > 0) = false := decide_eq_false (by omega)
    have HR := Lib.hid hr
    have HM := HR
    clear hr
    go_wp2_with (first | (go_at_call 47; refine (signed_p _ _ (by omega) (by omega)).mono ?_; rintro e w' ⟨rfl, rfl⟩))
    go_ret2
    exact ⟨ti (by have h := HV.out.2.1; (first | rw [if_pos HR.out] at h | rw [if_neg HR.out] at h | skip); (first | rw [if_pos HM.out] at h | rw [if_neg HM.out] at h | rw [if_neg (by have := HM.out; omega)] at h | skip); rw [HP.out]; exact h.symm), HD.out⟩
  · have b1 : decide (r > 0) = true := decide_eq_true (by omega)
    have hpos : 0 < r := by omega
    have HR := Lib.hid hr
    have HM := HR
    clear hr
    go_wp2_with (first | (go_at_call 47; refine (signed_p _ _ (by omega) (by omega)).mono ?_; rintro e w' ⟨rfl, rfl⟩))
    go_ret2
    exact ⟨ti (by have h := HV.out.2.1; (first | rw [if_pos HR.out] at h | rw [if_neg HR.out] at h | skip); (first | rw [if_pos HM.out] at h | rw [if_neg HM.out] at h | rw [if_neg (by have := HM.out; omega)] at h | skip); rw [HP.out]; exact h.symm), HD.out⟩
end Go.Proofs.Ytpgpdglmgpjhlaa
