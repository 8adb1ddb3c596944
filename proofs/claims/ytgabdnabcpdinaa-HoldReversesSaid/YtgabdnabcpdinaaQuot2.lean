/- The reference's quotient, rounded in one of three ways. -/
import Derived.Test.YtgabdnabcpdinaaQuot
namespace Go.Proofs.Ytgabdnabcpdinaa
open Go.RowKit Fdk
set_option linter.unusedVariables false

theorem iabs_mul {a b : Int} (h0 : -9223372036854775807 ≤ a) (h1 : a ≤ 9223372036854775807) (h2 : -9223372036854775807 ≤ b) (h3 : b ≤ 9223372036854775807) :
    0 ≤ iabs a ∧ iabs a ≤ 9223372036854775807 ∧ 0 ≤ iabs b ∧ iabs b ≤ 9223372036854775807 ∧ 0 ≤ iabs a * iabs b ∧ iabs a * iabs b ≤ 85070591730234615865843651857942052864 := by
  have a0 := iabs_nn a
  have b0 := iabs_nn b
  have a1 : iabs a ≤ 9223372036854775807 := by unfold iabs; split <;> omega
  have b1 : iabs b ≤ 9223372036854775807 := by unfold iabs; split <;> omega
  have k : iabs a * iabs b ≤ 9223372036854775807 * 9223372036854775807 := Int.mul_le_mul a1 b1 b0 (by omega)
  exact ⟨a0, a1, b0, b1, Int.mul_nonneg a0 b0, by omega⟩
theorem compl64 {q : Int} (h0 : 0 ≤ q) (h1 : q < 18446744073709551616) : bits BinOp.xor IntKind.u64 IntKind.u64.max q = 18446744073709551615 - q := by
  obtain ⟨n, rfl⟩ := Int.eq_ofNat_of_zero_le h0
  have e1 : (BitVec.ofInt 64 (n : Int)).toNat = n := by
    rw [BitVec.ofInt_natCast, BitVec.toNat_ofNat]; exact Nat.mod_eq_of_lt (by omega)
  have e2 : BitVec.ofInt 64 IntKind.u64.max = BitVec.allOnes 64 := by decide +kernel
  show IntKind.u64.wrap ((BitVec.ofInt 64 IntKind.u64.max ^^^ BitVec.ofInt 64 (n : Int)).toNat : Int) = _
  rw [e2, BitVec.allOnes_xor, BitVec.toNat_not, e1, IntKind.wrap_u64]
  omega
theorem neg64 {q : Int} (h0 : 0 ≤ q) (h1 : q ≤ 4611686018427387905) : wrap64 (IntKind.u64.wrap (bits BinOp.xor IntKind.u64 IntKind.u64.max q + 1)) = -q := by
  rw [compl64 h0 (by omega), IntKind.wrap_u64]; unfold wrap64; omega
/-- the three ways of rounding a quotient by a number that is positive. -/
def qdown (p c : Int) : Int := p / c
def qup (p c : Int) : Int := - (-p / c)
def qnear (p c : Int) : Int := (2 * p + c) / (2 * c)
theorem qd_pos {P c Q r : Int} (hc : 1 ≤ c) (hQ : Q = P / c) (hr : r = P % c) : qdown P c = Q ∧ qup P c = (if r = 0 then Q else Q + 1) ∧ qnear P c = (if c - r < r ∨ r = c - r then Q + 1 else Q) := by
  have e := Int.mul_ediv_add_emod P c
  have r0 := Int.emod_nonneg P (by omega : c ≠ 0)
  have r1 := Int.emod_lt_of_pos P (by omega : 0 < c)
  rw [← hQ, ← hr] at e
  rw [← hr] at r0 r1
  refine ⟨hQ.symm, ?_, ?_⟩
  · unfold qup
    by_cases h : r = 0
    · rw [if_pos h, show -P = c * (-Q) by grind, Int.mul_ediv_cancel_left _ (by omega)]; omega
    · rw [if_neg h, show -P = (c - r) + c * (-(Q + 1)) by grind, Int.add_mul_ediv_left _ _ (by omega), Int.ediv_eq_zero_of_lt (by omega) (by omega)]; omega
  · unfold qnear
    by_cases h : c - r < r ∨ r = c - r
    · rw [if_pos h, show 2 * P + c = (2 * r - c) + 2 * c * (Q + 1) by grind, Int.add_mul_ediv_left _ _ (by omega), Int.ediv_eq_zero_of_lt (by omega) (by omega)]; omega
    · rw [if_neg h, show 2 * P + c = (2 * r + c) + 2 * c * Q by grind, Int.add_mul_ediv_left _ _ (by omega), Int.ediv_eq_zero_of_lt (by omega) (by omega)]; omega
theorem qd_neg {P c Q r : Int} (hc : 1 ≤ c) (hQ : Q = P / c) (hr : r = P % c) : qdown (-P) c = (if r = 0 then -Q else -(Q + 1)) ∧ qup (-P) c = -Q ∧ qnear (-P) c = (if c - r < r then -(Q + 1) else -Q) := by
  have e := Int.mul_ediv_add_emod P c
  have r0 := Int.emod_nonneg P (by omega : c ≠ 0)
  have r1 := Int.emod_lt_of_pos P (by omega : 0 < c)
  rw [← hQ, ← hr] at e
  rw [← hr] at r0 r1
  refine ⟨?_, ?_, ?_⟩
  · unfold qdown
    by_cases h : r = 0
    · rw [if_pos h, show -P = c * (-Q) by grind, Int.mul_ediv_cancel_left _ (by omega)]
    · rw [if_neg h, show -P = (c - r) + c * (-(Q + 1)) by grind, Int.add_mul_ediv_left _ _ (by omega), Int.ediv_eq_zero_of_lt (by omega) (by omega)]; omega
  · unfold qup; rw [Int.neg_neg, hQ]
  · unfold qnear
    by_cases h : c - r < r
    · rw [if_pos h, show 2 * -P + c = (3 * c - 2 * r) + 2 * c * (-(Q + 1)) by grind, Int.add_mul_ediv_left _ _ (by omega), Int.ediv_eq_zero_of_lt (by omega) (by omega)]; omega
    · rw [if_neg h, show 2 * -P + c = (c - 2 * r) + 2 * c * (-Q) by grind, Int.add_mul_ediv_left _ _ (by omega), Int.ediv_eq_zero_of_lt (by omega) (by omega)]; omega
theorem qz {q : Int} (h : 0 ≤ q) : (q + 1 == 0) = false := by rw [beq_eq_false_iff_ne]; omega
abbrev TwoI (a b : Int) : Ending := .returned (.tuple #[.int .i64 a, .int .i64 b])
theorem ti {a b : Int} (h : a = b) : TwoI a 0 = TwoI b 0 := by rw [h]
theorem lt_dec {a : Int} : (0 ≤ a → decide (a < 0) = false) ∧ (a < 0 → decide (a < 0) = true) := ⟨fun h => decide_eq_false (by omega), fun h => decide_eq_true h⟩

set_option maxHeartbeats 3200000 in
set_option maxRecDepth 100000 in
theorem quot0_pp (a b c : Int) (w : World) (h0 : -9223372036854775807 ≤ a) (h1 : a ≤ 9223372036854775807) (h2 : -9223372036854775807 ≤ b) (h3 : b ≤ 9223372036854775807) (c0 : 1 ≤ c) (c1 : c ≤ 9223372036854775807)
    (hq : iabs a * iabs b / c ≤ 4611686018427387904) (sa : decide (a < 0) = false) (sb : decide (b < 0) = false) (hp : a * b = (iabs a * iabs b)) :
    Calls Try.prog 53 #[.int .i64 a, .int .i64 b, .int .i64 c, .int .i64 0] w fun e w' => e = TwoI (qdown (a * b) c) 0 ∧ w = w' := by
  have ⟨a0, a1, b0, b1, p0, p1⟩ := iabs_mul h0 h1 h2 h3
  have HP := Lib.hid hp
  clear hp
  have ec : iabs c = c := by unfold iabs; rw [if_neg (by omega)]
  have sc : decide (c < 0) = false := lt_dec.1 (by omega)
  have cz : (c == 0) = false := by rw [beq_eq_false_iff_ne]; omega
  go_enter Try.func53, Try.ntmps53
  go_wp2_with (first | (go_at_call 72; refine (size_any _ _ (by omega) (by omega)).mono ?_; rintro e w' ⟨rfl, rfl⟩) | (go_at_call 71; refine (product_any _ _ _ a0 a1 b0 b1).mono ?_; rintro e w' ⟨rfl, rfl⟩))
  generalize iabs a * iabs b = P at *
  refine (divide_any P c _ p0 p1 c0 c1).mono ?_
  rintro e w' ⟨⟨qh, ql, rfl, hQ, q0, l0, l1⟩, rfl⟩
  have r0 : 0 ≤ P % c := Int.emod_nonneg _ (by omega)
  have r1 : P % c < c := Int.emod_lt_of_pos _ (by omega)
  obtain rfl : qh = 0 := by omega
  have hl : ql ≤ 4611686018427387904 := by omega
  have HV := Lib.hid (qd_pos (P := P) (Q := ql) (r := P % c) c0 (by omega) rfl)
  clear hQ hq
  have n1 := neg64 l0 (by omega)
  have n2 := neg64 (q := ql + 1) (by omega) (by omega)
  have z1 := qz l0
  generalize P % c = r at *
  by_cases hr : r = 0
  · have b1 : (r == 0) = true := by rw [beq_iff_eq]; exact hr
    have b2 : (r != 0) = false := by rw [bne_eq_false_iff_eq]; exact hr
    have b3 : (r == c - r) = false := by rw [beq_eq_false_iff_ne]; omega
    have hm : r < c - r := by omega
    have HR := Lib.hid hr
    clear hr
    go_wp2_with (first | (go_at_call 72; refine (size_any _ _ (by omega) (by omega)).mono ?_; rintro e w' ⟨rfl, rfl⟩))
    go_ret2
    exact ⟨ti (by have h := HV.out.1; (first | rw [if_pos HR.out] at h | rw [if_neg (by have := HR.out; omega)] at h | skip); rw [HP.out]; exact h.symm), rfl⟩
  · have b1 : (r == 0) = false := by rw [beq_eq_false_iff_ne]; exact hr
    have b2 : (r != 0) = true := by rw [bne_iff_ne]; exact hr
    have HR := Lib.hid hr
    clear hr
    by_cases hm : c - r < r
    · have b3 : (r == c - r) = false := by rw [beq_eq_false_iff_ne]; omega
      go_wp2_with (first | (go_at_call 72; refine (size_any _ _ (by omega) (by omega)).mono ?_; rintro e w' ⟨rfl, rfl⟩))
      go_ret2
      exact ⟨ti (by have h := HV.out.1; (first | rw [if_neg HR.out] at h | rw [if_pos (by omega)] at h | skip); rw [HP.out]; exact h.symm), rfl⟩
    · by_cases hm2 : r = c - r
      · have b3 : (r == c - r) = true := by rw [beq_iff_eq]; exact hm2
        have HM := Lib.hid hm2
        clear hm2
        go_wp2_with (first | (go_at_call 72; refine (size_any _ _ (by omega) (by omega)).mono ?_; rintro e w' ⟨rfl, rfl⟩))
        go_ret2
        exact ⟨ti (by have h := HV.out.1; (first | rw [if_neg HR.out] at h | rw [if_pos (Or.inr HM.out)] at h | rw [if_neg (by have := HM.out; omega)] at h | skip); rw [HP.out]; exact h.symm), rfl⟩
      · have b3 : (r == c - r) = false := by rw [beq_eq_false_iff_ne]; exact hm2
        have HM := Lib.hid hm2
        clear hm2
        go_wp2_with (first | (go_at_call 72; refine (size_any _ _ (by omega) (by omega)).mono ?_; rintro e w' ⟨rfl, rfl⟩))
        go_ret2
        exact ⟨ti (by have h := HV.out.1; (first | rw [if_neg HR.out] at h | rw [if_neg (by have := HM.out; omega)] at h | skip); rw [HP.out]; exact h.symm), rfl⟩

set_option maxHeartbeats 3200000 in
set_option maxRecDepth 100000 in
theorem quot0_pn (a b c : Int) (w : World) (h0 : -9223372036854775807 ≤ a) (h1 : a ≤ 9223372036854775807) (h2 : -9223372036854775807 ≤ b) (h3 : b ≤ 9223372036854775807) (c0 : 1 ≤ c) (c1 : c ≤ 9223372036854775807)
    (hq : iabs a * iabs b / c ≤ 4611686018427387904) (sa : decide (a < 0) = false) (sb : decide (b < 0) = true) (hp : a * b = -(iabs a * iabs b)) :
    Calls Try.prog 53 #[.int .i64 a, .int .i64 b, .int .i64 c, .int .i64 0] w fun e w' => e = TwoI (qdown (a * b) c) 0 ∧ w = w' := by
  have ⟨a0, a1, b0, b1, p0, p1⟩ := iabs_mul h0 h1 h2 h3
  have HP := Lib.hid hp
  clear hp
  have ec : iabs c = c := by unfold iabs; rw [if_neg (by omega)]
  have sc : decide (c < 0) = false := lt_dec.1 (by omega)
  have cz : (c == 0) = false := by rw [beq_eq_false_iff_ne]; omega
  go_enter Try.func53, Try.ntmps53
  go_wp2_with (first | (go_at_call 72; refine (size_any _ _ (by omega) (by omega)).mono ?_; rintro e w' ⟨rfl, rfl⟩) | (go_at_call 71; refine (product_any _ _ _ a0 a1 b0 b1).mono ?_; rintro e w' ⟨rfl, rfl⟩))
  generalize iabs a * iabs b = P at *
  refine (divide_any P c _ p0 p1 c0 c1).mono ?_
  rintro e w' ⟨⟨qh, ql, rfl, hQ, q0, l0, l1⟩, rfl⟩
  have r0 : 0 ≤ P % c := Int.emod_nonneg _ (by omega)
  have r1 : P % c < c := Int.emod_lt_of_pos _ (by omega)
  obtain rfl : qh = 0 := by omega
  have hl : ql ≤ 4611686018427387904 := by omega
  have HV := Lib.hid (qd_neg (P := P) (Q := ql) (r := P % c) c0 (by omega) rfl)
  clear hQ hq
  have n1 := neg64 l0 (by omega)
  have n2 := neg64 (q := ql + 1) (by omega) (by omega)
  have z1 := qz l0
  generalize P % c = r at *
  by_cases hr : r = 0
  · have b1 : (r == 0) = true := by rw [beq_iff_eq]; exact hr
    have b2 : (r != 0) = false := by rw [bne_eq_false_iff_eq]; exact hr
    have b3 : (r == c - r) = false := by rw [beq_eq_false_iff_ne]; omega
    have hm : r < c - r := by omega
    have HR := Lib.hid hr
    clear hr
    go_wp2_with (first | (go_at_call 72; refine (size_any _ _ (by omega) (by omega)).mono ?_; rintro e w' ⟨rfl, rfl⟩))
    go_ret2
    exact ⟨ti (by have h := HV.out.1; (first | rw [if_pos HR.out] at h | rw [if_neg (by have := HR.out; omega)] at h | skip); rw [HP.out]; exact h.symm), rfl⟩
  · have b1 : (r == 0) = false := by rw [beq_eq_false_iff_ne]; exact hr
    have b2 : (r != 0) = true := by rw [bne_iff_ne]; exact hr
    have HR := Lib.hid hr
    clear hr
    by_cases hm : c - r < r
    · have b3 : (r == c - r) = false := by rw [beq_eq_false_iff_ne]; omega
      go_wp2_with (first | (go_at_call 72; refine (size_any _ _ (by omega) (by omega)).mono ?_; rintro e w' ⟨rfl, rfl⟩))
      go_ret2
      exact ⟨ti (by have h := HV.out.1; (first | rw [if_neg HR.out] at h | rw [if_pos (by omega)] at h | skip); rw [HP.out]; exact h.symm), rfl⟩
    · by_cases hm2 : r = c - r
      · have b3 : (r == c - r) = true := by rw [beq_iff_eq]; exact hm2
        have HM := Lib.hid hm2
        clear hm2
        go_wp2_with (first | (go_at_call 72; refine (size_any _ _ (by omega) (by omega)).mono ?_; rintro e w' ⟨rfl, rfl⟩))
        go_ret2
        exact ⟨ti (by have h := HV.out.1; (first | rw [if_neg HR.out] at h | rw [if_pos (Or.inr HM.out)] at h | rw [if_neg (by have := HM.out; omega)] at h | skip); rw [HP.out]; exact h.symm), rfl⟩
      · have b3 : (r == c - r) = false := by rw [beq_eq_false_iff_ne]; exact hm2
        have HM := Lib.hid hm2
        clear hm2
        go_wp2_with (first | (go_at_call 72; refine (size_any _ _ (by omega) (by omega)).mono ?_; rintro e w' ⟨rfl, rfl⟩))
        go_ret2
        exact ⟨ti (by have h := HV.out.1; (first | rw [if_neg HR.out] at h | rw [if_neg (by have := HM.out; omega)] at h | skip); rw [HP.out]; exact h.symm), rfl⟩

set_option maxHeartbeats 3200000 in
set_option maxRecDepth 100000 in
theorem quot0_np (a b c : Int) (w : World) (h0 : -9223372036854775807 ≤ a) (h1 : a ≤ 9223372036854775807) (h2 : -9223372036854775807 ≤ b) (h3 : b ≤ 9223372036854775807) (c0 : 1 ≤ c) (c1 : c ≤ 9223372036854775807)
    (hq : iabs a * iabs b / c ≤ 4611686018427387904) (sa : decide (a < 0) = true) (sb : decide (b < 0) = false) (hp : a * b = -(iabs a * iabs b)) :
    Calls Try.prog 53 #[.int .i64 a, .int .i64 b, .int .i64 c, .int .i64 0] w fun e w' => e = TwoI (qdown (a * b) c) 0 ∧ w = w' := by
  have ⟨a0, a1, b0, b1, p0, p1⟩ := iabs_mul h0 h1 h2 h3
  have HP := Lib.hid hp
  clear hp
  have ec : iabs c = c := by unfold iabs; rw [if_neg (by omega)]
  have sc : decide (c < 0) = false := lt_dec.1 (by omega)
  have cz : (c == 0) = false := by rw [beq_eq_false_iff_ne]; omega
  go_enter Try.func53, Try.ntmps53
  go_wp2_with (first | (go_at_call 72; refine (size_any _ _ (by omega) (by omega)).mono ?_; rintro e w' ⟨rfl, rfl⟩) | (go_at_call 71; refine (product_any _ _ _ a0 a1 b0 b1).mono ?_; rintro e w' ⟨rfl, rfl⟩))
  generalize iabs a * iabs b = P at *
  refine (divide_any P c _ p0 p1 c0 c1).mono ?_
  rintro e w' ⟨⟨qh, ql, rfl, hQ, q0, l0, l1⟩, rfl⟩
  have r0 : 0 ≤ P % c := Int.emod_nonneg _ (by omega)
  have r1 : P % c < c := Int.emod_lt_of_pos _ (by omega)
  obtain rfl : qh = 0 := by omega
  have hl : ql ≤ 4611686018427387904 := by omega
  have HV := Lib.hid (qd_neg (P := P) (Q := ql) (r := P % c) c0 (by omega) rfl)
  clear hQ hq
  have n1 := neg64 l0 (by omega)
  have n2 := neg64 (q := ql + 1) (by omega) (by omega)
  have z1 := qz l0
  generalize P % c = r at *
  by_cases hr : r = 0
  · have b1 : (r == 0) = true := by rw [beq_iff_eq]; exact hr
    have b2 : (r != 0) = false := by rw [bne_eq_false_iff_eq]; exact hr
    have b3 : (r == c - r) = false := by rw [beq_eq_false_iff_ne]; omega
    have hm : r < c - r := by omega
    have HR := Lib.hid hr
    clear hr
    go_wp2_with (first | (go_at_call 72; refine (size_any _ _ (by omega) (by omega)).mono ?_; rintro e w' ⟨rfl, rfl⟩))
    go_ret2
    exact ⟨ti (by have h := HV.out.1; (first | rw [if_pos HR.out] at h | rw [if_neg (by have := HR.out; omega)] at h | skip); rw [HP.out]; exact h.symm), rfl⟩
  · have b1 : (r == 0) = false := by rw [beq_eq_false_iff_ne]; exact hr
    have b2 : (r != 0) = true := by rw [bne_iff_ne]; exact hr
    have HR := Lib.hid hr
    clear hr
    by_cases hm : c - r < r
    · have b3 : (r == c - r) = false := by rw [beq_eq_false_iff_ne]; omega
      go_wp2_with (first | (go_at_call 72; refine (size_any _ _ (by omega) (by omega)).mono ?_; rintro e w' ⟨rfl, rfl⟩))
      go_ret2
      exact ⟨ti (by have h := HV.out.1; (first | rw [if_neg HR.out] at h | rw [if_pos (by omega)] at h | skip); rw [HP.out]; exact h.symm), rfl⟩
    · by_cases hm2 : r = c - r
      · have b3 : (r == c - r) = true := by rw [beq_iff_eq]; exact hm2
        have HM := Lib.hid hm2
        clear hm2
        go_wp2_with (first | (go_at_call 72; refine (size_any _ _ (by omega) (by omega)).mono ?_; rintro e w' ⟨rfl, rfl⟩))
        go_ret2
        exact ⟨ti (by have h := HV.out.1; (first | rw [if_neg HR.out] at h | rw [if_pos (Or.inr HM.out)] at h | rw [if_neg (by have := HM.out; omega)] at h | skip); rw [HP.out]; exact h.symm), rfl⟩
      · have b3 : (r == c - r) = false := by rw [beq_eq_false_iff_ne]; exact hm2
        have HM := Lib.hid hm2
        clear hm2
        go_wp2_with (first | (go_at_call 72; refine (size_any _ _ (by omega) (by omega)).mono ?_; rintro e w' ⟨rfl, rfl⟩))
        go_ret2
        exact ⟨ti (by have h := HV.out.1; (first | rw [if_neg HR.out] at h | rw [if_neg (by have := HM.out; omega)] at h | skip); rw [HP.out]; exact h.symm), rfl⟩

set_option maxHeartbeats 3200000 in
set_option maxRecDepth 100000 in
theorem quot0_nn (a b c : Int) (w : World) (h0 : -9223372036854775807 ≤ a) (h1 : a ≤ 9223372036854775807) (h2 : -9223372036854775807 ≤ b) (h3 : b ≤ 9223372036854775807) (c0 : 1 ≤ c) (c1 : c ≤ 9223372036854775807)
    (hq : iabs a * iabs b / c ≤ 4611686018427387904) (sa : decide (a < 0) = true) (sb : decide (b < 0) = true) (hp : a * b = (iabs a * iabs b)) :
    Calls Try.prog 53 #[.int .i64 a, .int .i64 b, .int .i64 c, .int .i64 0] w fun e w' => e = TwoI (qdown (a * b) c) 0 ∧ w = w' := by
  have ⟨a0, a1, b0, b1, p0, p1⟩ := iabs_mul h0 h1 h2 h3
  have HP := Lib.hid hp
  clear hp
  have ec : iabs c = c := by unfold iabs; rw [if_neg (by omega)]
  have sc : decide (c < 0) = false := lt_dec.1 (by omega)
  have cz : (c == 0) = false := by rw [beq_eq_false_iff_ne]; omega
  go_enter Try.func53, Try.ntmps53
  go_wp2_with (first | (go_at_call 72; refine (size_any _ _ (by omega) (by omega)).mono ?_; rintro e w' ⟨rfl, rfl⟩) | (go_at_call 71; refine (product_any _ _ _ a0 a1 b0 b1).mono ?_; rintro e w' ⟨rfl, rfl⟩))
  generalize iabs a * iabs b = P at *
  refine (divide_any P c _ p0 p1 c0 c1).mono ?_
  rintro e w' ⟨⟨qh, ql, rfl, hQ, q0, l0, l1⟩, rfl⟩
  have r0 : 0 ≤ P % c := Int.emod_nonneg _ (by omega)
  have r1 : P % c < c := Int.emod_lt_of_pos _ (by omega)
  obtain rfl : qh = 0 := by omega
  have hl : ql ≤ 4611686018427387904 := by omega
  have HV := Lib.hid (qd_pos (P := P) (Q := ql) (r := P % c) c0 (by omega) rfl)
  clear hQ hq
  have n1 := neg64 l0 (by omega)
  have n2 := neg64 (q := ql + 1) (by omega) (by omega)
  have z1 := qz l0
  generalize P % c = r at *
  by_cases hr : r = 0
  · have b1 : (r == 0) = true := by rw [beq_iff_eq]; exact hr
    have b2 : (r != 0) = false := by rw [bne_eq_false_iff_eq]; exact hr
    have b3 : (r == c - r) = false := by rw [beq_eq_false_iff_ne]; omega
    have hm : r < c - r := by omega
    have HR := Lib.hid hr
    clear hr
    go_wp2_with (first | (go_at_call 72; refine (size_any _ _ (by omega) (by omega)).mono ?_; rintro e w' ⟨rfl, rfl⟩))
    go_ret2
    exact ⟨ti (by have h := HV.out.1; (first | rw [if_pos HR.out] at h | rw [if_neg (by have := HR.out; omega)] at h | skip); rw [HP.out]; exact h.symm), rfl⟩
  · have b1 : (r == 0) = false := by rw [beq_eq_false_iff_ne]; exact hr
    have b2 : (r != 0) = true := by rw [bne_iff_ne]; exact hr
    have HR := Lib.hid hr
    clear hr
    by_cases hm : c - r < r
    · have b3 : (r == c - r) = false := by rw [beq_eq_false_iff_ne]; omega
      go_wp2_with (first | (go_at_call 72; refine (size_any _ _ (by omega) (by omega)).mono ?_; rintro e w' ⟨rfl, rfl⟩))
      go_ret2
      exact ⟨ti (by have h := HV.out.1; (first | rw [if_neg HR.out] at h | rw [if_pos (by omega)] at h | skip); rw [HP.out]; exact h.symm), rfl⟩
    · by_cases hm2 : r = c - r
      · have b3 : (r == c - r) = true := by rw [beq_iff_eq]; exact hm2
        have HM := Lib.hid hm2
        clear hm2
        go_wp2_with (first | (go_at_call 72; refine (size_any _ _ (by omega) (by omega)).mono ?_; rintro e w' ⟨rfl, rfl⟩))
        go_ret2
        exact ⟨ti (by have h := HV.out.1; (first | rw [if_neg HR.out] at h | rw [if_pos (Or.inr HM.out)] at h | rw [if_neg (by have := HM.out; omega)] at h | skip); rw [HP.out]; exact h.symm), rfl⟩
      · have b3 : (r == c - r) = false := by rw [beq_eq_false_iff_ne]; exact hm2
        have HM := Lib.hid hm2
        clear hm2
        go_wp2_with (first | (go_at_call 72; refine (size_any _ _ (by omega) (by omega)).mono ?_; rintro e w' ⟨rfl, rfl⟩))
        go_ret2
        exact ⟨ti (by have h := HV.out.1; (first | rw [if_neg HR.out] at h | rw [if_neg (by have := HM.out; omega)] at h | skip); rw [HP.out]; exact h.symm), rfl⟩

set_option maxHeartbeats 3200000 in
set_option maxRecDepth 100000 in
theorem quot1_pp (a b c : Int) (w : World) (h0 : -9223372036854775807 ≤ a) (h1 : a ≤ 9223372036854775807) (h2 : -9223372036854775807 ≤ b) (h3 : b ≤ 9223372036854775807) (c0 : 1 ≤ c) (c1 : c ≤ 9223372036854775807)
    (hq : iabs a * iabs b / c ≤ 4611686018427387904) (sa : decide (a < 0) = false) (sb : decide (b < 0) = false) (hp : a * b = (iabs a * iabs b)) :
    Calls Try.prog 53 #[.int .i64 a, .int .i64 b, .int .i64 c, .int .i64 1] w fun e w' => e = TwoI (qup (a * b) c) 0 ∧ w = w' := by
  have ⟨a0, a1, b0, b1, p0, p1⟩ := iabs_mul h0 h1 h2 h3
  have HP := Lib.hid hp
  clear hp
  have ec : iabs c = c := by unfold iabs; rw [if_neg (by omega)]
  have sc : decide (c < 0) = false := lt_dec.1 (by omega)
  have cz : (c == 0) = false := by rw [beq_eq_false_iff_ne]; omega
  go_enter Try.func53, Try.ntmps53
  go_wp2_with (first | (go_at_call 72; refine (size_any _ _ (by omega) (by omega)).mono ?_; rintro e w' ⟨rfl, rfl⟩) | (go_at_call 71; refine (product_any _ _ _ a0 a1 b0 b1).mono ?_; rintro e w' ⟨rfl, rfl⟩))
  generalize iabs a * iabs b = P at *
  refine (divide_any P c _ p0 p1 c0 c1).mono ?_
  rintro e w' ⟨⟨qh, ql, rfl, hQ, q0, l0, l1⟩, rfl⟩
  have r0 : 0 ≤ P % c := Int.emod_nonneg _ (by omega)
  have r1 : P % c < c := Int.emod_lt_of_pos _ (by omega)
  obtain rfl : qh = 0 := by omega
  have hl : ql ≤ 4611686018427387904 := by omega
  have HV := Lib.hid (qd_pos (P := P) (Q := ql) (r := P % c) c0 (by omega) rfl)
  clear hQ hq
  have n1 := neg64 l0 (by omega)
  have n2 := neg64 (q := ql + 1) (by omega) (by omega)
  have z1 := qz l0
  generalize P % c = r at *
  by_cases hr : r = 0
  · have b1 : (r == 0) = true := by rw [beq_iff_eq]; exact hr
    have b2 : (r != 0) = false := by rw [bne_eq_false_iff_eq]; exact hr
    have b3 : (r == c - r) = false := by rw [beq_eq_false_iff_ne]; omega
    have hm : r < c - r := by omega
    have HR := Lib.hid hr
    clear hr
    go_wp2_with (first | (go_at_call 72; refine (size_any _ _ (by omega) (by omega)).mono ?_; rintro e w' ⟨rfl, rfl⟩))
    go_ret2
    exact ⟨ti (by have h := HV.out.2.1; (first | rw [if_pos HR.out] at h | rw [if_neg (by have := HR.out; omega)] at h | skip); rw [HP.out]; exact h.symm), rfl⟩
  · have b1 : (r == 0) = false := by rw [beq_eq_false_iff_ne]; exact hr
    have b2 : (r != 0) = true := by rw [bne_iff_ne]; exact hr
    have HR := Lib.hid hr
    clear hr
    by_cases hm : c - r < r
    · have b3 : (r == c - r) = false := by rw [beq_eq_false_iff_ne]; omega
      go_wp2_with (first | (go_at_call 72; refine (size_any _ _ (by omega) (by omega)).mono ?_; rintro e w' ⟨rfl, rfl⟩))
      go_ret2
      exact ⟨ti (by have h := HV.out.2.1; (first | rw [if_neg HR.out] at h | rw [if_pos (by omega)] at h | skip); rw [HP.out]; exact h.symm), rfl⟩
    · by_cases hm2 : r = c - r
      · have b3 : (r == c - r) = true := by rw [beq_iff_eq]; exact hm2
        have HM := Lib.hid hm2
        clear hm2
        go_wp2_with (first | (go_at_call 72; refine (size_any _ _ (by omega) (by omega)).mono ?_; rintro e w' ⟨rfl, rfl⟩))
        go_ret2
        exact ⟨ti (by have h := HV.out.2.1; (first | rw [if_neg HR.out] at h | rw [if_pos (Or.inr HM.out)] at h | rw [if_neg (by have := HM.out; omega)] at h | skip); rw [HP.out]; exact h.symm), rfl⟩
      · have b3 : (r == c - r) = false := by rw [beq_eq_false_iff_ne]; exact hm2
        have HM := Lib.hid hm2
        clear hm2
        go_wp2_with (first | (go_at_call 72; refine (size_any _ _ (by omega) (by omega)).mono ?_; rintro e w' ⟨rfl, rfl⟩))
        go_ret2
        exact ⟨ti (by have h := HV.out.2.1; (first | rw [if_neg HR.out] at h | rw [if_neg (by have := HM.out; omega)] at h | skip); rw [HP.out]; exact h.symm), rfl⟩

set_option maxHeartbeats 3200000 in
set_option maxRecDepth 100000 in
theorem quot1_pn (a b c : Int) (w : World) (h0 : -9223372036854775807 ≤ a) (h1 : a ≤ 9223372036854775807) (h2 : -9223372036854775807 ≤ b) (h3 : b ≤ 9223372036854775807) (c0 : 1 ≤ c) (c1 : c ≤ 9223372036854775807)
    (hq : iabs a * iabs b / c ≤ 4611686018427387904) (sa : decide (a < 0) = false) (sb : decide (b < 0) = true) (hp : a * b = -(iabs a * iabs b)) :
    Calls Try.prog 53 #[.int .i64 a, .int .i64 b, .int .i64 c, .int .i64 1] w fun e w' => e = TwoI (qup (a * b) c) 0 ∧ w = w' := by
  have ⟨a0, a1, b0, b1, p0, p1⟩ := iabs_mul h0 h1 h2 h3
  have HP := Lib.hid hp
  clear hp
  have ec : iabs c = c := by unfold iabs; rw [if_neg (by omega)]
  have sc : decide (c < 0) = false := lt_dec.1 (by omega)
  have cz : (c == 0) = false := by rw [beq_eq_false_iff_ne]; omega
  go_enter Try.func53, Try.ntmps53
  go_wp2_with (first | (go_at_call 72; refine (size_any _ _ (by omega) (by omega)).mono ?_; rintro e w' ⟨rfl, rfl⟩) | (go_at_call 71; refine (product_any _ _ _ a0 a1 b0 b1).mono ?_; rintro e w' ⟨rfl, rfl⟩))
  generalize iabs a * iabs b = P at *
  refine (divide_any P c _ p0 p1 c0 c1).mono ?_
  rintro e w' ⟨⟨qh, ql, rfl, hQ, q0, l0, l1⟩, rfl⟩
  have r0 : 0 ≤ P % c := Int.emod_nonneg _ (by omega)
  have r1 : P % c < c := Int.emod_lt_of_pos _ (by omega)
  obtain rfl : qh = 0 := by omega
  have hl : ql ≤ 4611686018427387904 := by omega
  have HV := Lib.hid (qd_neg (P := P) (Q := ql) (r := P % c) c0 (by omega) rfl)
  clear hQ hq
  have n1 := neg64 l0 (by omega)
  have n2 := neg64 (q := ql + 1) (by omega) (by omega)
  have z1 := qz l0
  generalize P % c = r at *
  by_cases hr : r = 0
  · have b1 : (r == 0) = true := by rw [beq_iff_eq]; exact hr
    have b2 : (r != 0) = false := by rw [bne_eq_false_iff_eq]; exact hr
    have b3 : (r == c - r) = false := by rw [beq_eq_false_iff_ne]; omega
    have hm : r < c - r := by omega
    have HR := Lib.hid hr
    clear hr
    go_wp2_with (first | (go_at_call 72; refine (size_any _ _ (by omega) (by omega)).mono ?_; rintro e w' ⟨rfl, rfl⟩))
    go_ret2
    exact ⟨ti (by have h := HV.out.2.1; (first | rw [if_pos HR.out] at h | rw [if_neg (by have := HR.out; omega)] at h | skip); rw [HP.out]; exact h.symm), rfl⟩
  · have b1 : (r == 0) = false := by rw [beq_eq_false_iff_ne]; exact hr
    have b2 : (r != 0) = true := by rw [bne_iff_ne]; exact hr
    have HR := Lib.hid hr
    clear hr
    by_cases hm : c - r < r
    · have b3 : (r == c - r) = false := by rw [beq_eq_false_iff_ne]; omega
      go_wp2_with (first | (go_at_call 72; refine (size_any _ _ (by omega) (by omega)).mono ?_; rintro e w' ⟨rfl, rfl⟩))
      go_ret2
      exact ⟨ti (by have h := HV.out.2.1; (first | rw [if_neg HR.out] at h | rw [if_pos (by omega)] at h | skip); rw [HP.out]; exact h.symm), rfl⟩
    · by_cases hm2 : r = c - r
      · have b3 : (r == c - r) = true := by rw [beq_iff_eq]; exact hm2
        have HM := Lib.hid hm2
        clear hm2
        go_wp2_with (first | (go_at_call 72; refine (size_any _ _ (by omega) (by omega)).mono ?_; rintro e w' ⟨rfl, rfl⟩))
        go_ret2
        exact ⟨ti (by have h := HV.out.2.1; (first | rw [if_neg HR.out] at h | rw [if_pos (Or.inr HM.out)] at h | rw [if_neg (by have := HM.out; omega)] at h | skip); rw [HP.out]; exact h.symm), rfl⟩
      · have b3 : (r == c - r) = false := by rw [beq_eq_false_iff_ne]; exact hm2
        have HM := Lib.hid hm2
        clear hm2
        go_wp2_with (first | (go_at_call 72; refine (size_any _ _ (by omega) (by omega)).mono ?_; rintro e w' ⟨rfl, rfl⟩))
        go_ret2
        exact ⟨ti (by have h := HV.out.2.1; (first | rw [if_neg HR.out] at h | rw [if_neg (by have := HM.out; omega)] at h | skip); rw [HP.out]; exact h.symm), rfl⟩

set_option maxHeartbeats 3200000 in
set_option maxRecDepth 100000 in
theorem quot1_np (a b c : Int) (w : World) (h0 : -9223372036854775807 ≤ a) (h1 : a ≤ 9223372036854775807) (h2 : -9223372036854775807 ≤ b) (h3 : b ≤ 9223372036854775807) (c0 : 1 ≤ c) (c1 : c ≤ 9223372036854775807)
    (hq : iabs a * iabs b / c ≤ 4611686018427387904) (sa : decide (a < 0) = true) (sb : decide (b < 0) = false) (hp : a * b = -(iabs a * iabs b)) :
    Calls Try.prog 53 #[.int .i64 a, .int .i64 b, .int .i64 c, .int .i64 1] w fun e w' => e = TwoI (qup (a * b) c) 0 ∧ w = w' := by
  have ⟨a0, a1, b0, b1, p0, p1⟩ := iabs_mul h0 h1 h2 h3
  have HP := Lib.hid hp
  clear hp
  have ec : iabs c = c := by unfold iabs; rw [if_neg (by omega)]
  have sc : decide (c < 0) = false := lt_dec.1 (by omega)
  have cz : (c == 0) = false := by rw [beq_eq_false_iff_ne]; omega
  go_enter Try.func53, Try.ntmps53
  go_wp2_with (first | (go_at_call 72; refine (size_any _ _ (by omega) (by omega)).mono ?_; rintro e w' ⟨rfl, rfl⟩) | (go_at_call 71; refine (product_any _ _ _ a0 a1 b0 b1).mono ?_; rintro e w' ⟨rfl, rfl⟩))
  generalize iabs a * iabs b = P at *
  refine (divide_any P c _ p0 p1 c0 c1).mono ?_
  rintro e w' ⟨⟨qh, ql, rfl, hQ, q0, l0, l1⟩, rfl⟩
  have r0 : 0 ≤ P % c := Int.emod_nonneg _ (by omega)
  have r1 : P % c < c := Int.emod_lt_of_pos _ (by omega)
  obtain rfl : qh = 0 := by omega
  have hl : ql ≤ 4611686018427387904 := by omega
  have HV := Lib.hid (qd_neg (P := P) (Q := ql) (r := P % c) c0 (by omega) rfl)
  clear hQ hq
  have n1 := neg64 l0 (by omega)
  have n2 := neg64 (q := ql + 1) (by omega) (by omega)
  have z1 := qz l0
  generalize P % c = r at *
  by_cases hr : r = 0
  · have b1 : (r == 0) = true := by rw [beq_iff_eq]; exact hr
    have b2 : (r != 0) = false := by rw [bne_eq_false_iff_eq]; exact hr
    have b3 : (r == c - r) = false := by rw [beq_eq_false_iff_ne]; omega
    have hm : r < c - r := by omega
    have HR := Lib.hid hr
    clear hr
    go_wp2_with (first | (go_at_call 72; refine (size_any _ _ (by omega) (by omega)).mono ?_; rintro e w' ⟨rfl, rfl⟩))
    go_ret2
    exact ⟨ti (by have h := HV.out.2.1; (first | rw [if_pos HR.out] at h | rw [if_neg (by have := HR.out; omega)] at h | skip); rw [HP.out]; exact h.symm), rfl⟩
  · have b1 : (r == 0) = false := by rw [beq_eq_false_iff_ne]; exact hr
    have b2 : (r != 0) = true := by rw [bne_iff_ne]; exact hr
    have HR := Lib.hid hr
    clear hr
    by_cases hm : c - r < r
    · have b3 : (r == c - r) = false := by rw [beq_eq_false_iff_ne]; omega
      go_wp2_with (first | (go_at_call 72; refine (size_any _ _ (by omega) (by omega)).mono ?_; rintro e w' ⟨rfl, rfl⟩))
      go_ret2
      exact ⟨ti (by have h := HV.out.2.1; (first | rw [if_neg HR.out] at h | rw [if_pos (by omega)] at h | skip); rw [HP.out]; exact h.symm), rfl⟩
    · by_cases hm2 : r = c - r
      · have b3 : (r == c - r) = true := by rw [beq_iff_eq]; exact hm2
        have HM := Lib.hid hm2
        clear hm2
        go_wp2_with (first | (go_at_call 72; refine (size_any _ _ (by omega) (by omega)).mono ?_; rintro e w' ⟨rfl, rfl⟩))
        go_ret2
        exact ⟨ti (by have h := HV.out.2.1; (first | rw [if_neg HR.out] at h | rw [if_pos (Or.inr HM.out)] at h | rw [if_neg (by have := HM.out; omega)] at h | skip); rw [HP.out]; exact h.symm), rfl⟩
      · have b3 : (r == c - r) = false := by rw [beq_eq_false_iff_ne]; exact hm2
        have HM := Lib.hid hm2
        clear hm2
        go_wp2_with (first | (go_at_call 72; refine (size_any _ _ (by omega) (by omega)).mono ?_; rintro e w' ⟨rfl, rfl⟩))
        go_ret2
        exact ⟨ti (by have h := HV.out.2.1; (first | rw [if_neg HR.out] at h | rw [if_neg (by have := HM.out; omega)] at h | skip); rw [HP.out]; exact h.symm), rfl⟩

set_option maxHeartbeats 3200000 in
set_option maxRecDepth 100000 in
theorem quot1_nn (a b c : Int) (w : World) (h0 : -9223372036854775807 ≤ a) (h1 : a ≤ 9223372036854775807) (h2 : -9223372036854775807 ≤ b) (h3 : b ≤ 9223372036854775807) (c0 : 1 ≤ c) (c1 : c ≤ 9223372036854775807)
    (hq : iabs a * iabs b / c ≤ 4611686018427387904) (sa : decide (a < 0) = true) (sb : decide (b < 0) = true) (hp : a * b = (iabs a * iabs b)) :
    Calls Try.prog 53 #[.int .i64 a, .int .i64 b, .int .i64 c, .int .i64 1] w fun e w' => e = TwoI (qup (a * b) c) 0 ∧ w = w' := by
  have ⟨a0, a1, b0, b1, p0, p1⟩ := iabs_mul h0 h1 h2 h3
  have HP := Lib.hid hp
  clear hp
  have ec : iabs c = c := by unfold iabs; rw [if_neg (by omega)]
  have sc : decide (c < 0) = false := lt_dec.1 (by omega)
  have cz : (c == 0) = false := by rw [beq_eq_false_iff_ne]; omega
  go_enter Try.func53, Try.ntmps53
  go_wp2_with (first | (go_at_call 72; refine (size_any _ _ (by omega) (by omega)).mono ?_; rintro e w' ⟨rfl, rfl⟩) | (go_at_call 71; refine (product_any _ _ _ a0 a1 b0 b1).mono ?_; rintro e w' ⟨rfl, rfl⟩))
  generalize iabs a * iabs b = P at *
  refine (divide_any P c _ p0 p1 c0 c1).mono ?_
  rintro e w' ⟨⟨qh, ql, rfl, hQ, q0, l0, l1⟩, rfl⟩
  have r0 : 0 ≤ P % c := Int.emod_nonneg _ (by omega)
  have r1 : P % c < c := Int.emod_lt_of_pos _ (by omega)
  obtain rfl : qh = 0 := by omega
  have hl : ql ≤ 4611686018427387904 := by omega
  have HV := Lib.hid (qd_pos (P := P) (Q := ql) (r := P % c) c0 (by omega) rfl)
  clear hQ hq
  have n1 := neg64 l0 (by omega)
  have n2 := neg64 (q := ql + 1) (by omega) (by omega)
  have z1 := qz l0
  generalize P % c = r at *
  by_cases hr : r = 0
  · have b1 : (r == 0) = true := by rw [beq_iff_eq]; exact hr
    have b2 : (r != 0) = false := by rw [bne_eq_false_iff_eq]; exact hr
    have b3 : (r == c - r) = false := by rw [beq_eq_false_iff_ne]; omega
    have hm : r < c - r := by omega
    have HR := Lib.hid hr
    clear hr
    go_wp2_with (first | (go_at_call 72; refine (size_any _ _ (by omega) (by omega)).mono ?_; rintro e w' ⟨rfl, rfl⟩))
    go_ret2
    exact ⟨ti (by have h := HV.out.2.1; (first | rw [if_pos HR.out] at h | rw [if_neg (by have := HR.out; omega)] at h | skip); rw [HP.out]; exact h.symm), rfl⟩
  · have b1 : (r == 0) = false := by rw [beq_eq_false_iff_ne]; exact hr
    have b2 : (r != 0) = true := by rw [bne_iff_ne]; exact hr
    have HR := Lib.hid hr
    clear hr
    by_cases hm : c - r < r
    · have b3 : (r == c - r) = false := by rw [beq_eq_false_iff_ne]; omega
      go_wp2_with (first | (go_at_call 72; refine (size_any _ _ (by omega) (by omega)).mono ?_; rintro e w' ⟨rfl, rfl⟩))
      go_ret2
      exact ⟨ti (by have h := HV.out.2.1; (first | rw [if_neg HR.out] at h | rw [if_pos (by omega)] at h | skip); rw [HP.out]; exact h.symm), rfl⟩
    · by_cases hm2 : r = c - r
      · have b3 : (r == c - r) = true := by rw [beq_iff_eq]; exact hm2
        have HM := Lib.hid hm2
        clear hm2
        go_wp2_with (first | (go_at_call 72; refine (size_any _ _ (by omega) (by omega)).mono ?_; rintro e w' ⟨rfl, rfl⟩))
        go_ret2
        exact ⟨ti (by have h := HV.out.2.1; (first | rw [if_neg HR.out] at h | rw [if_pos (Or.inr HM.out)] at h | rw [if_neg (by have := HM.out; omega)] at h | skip); rw [HP.out]; exact h.symm), rfl⟩
      · have b3 : (r == c - r) = false := by rw [beq_eq_false_iff_ne]; exact hm2
        have HM := Lib.hid hm2
        clear hm2
        go_wp2_with (first | (go_at_call 72; refine (size_any _ _ (by omega) (by omega)).mono ?_; rintro e w' ⟨rfl, rfl⟩))
        go_ret2
        exact ⟨ti (by have h := HV.out.2.1; (first | rw [if_neg HR.out] at h | rw [if_neg (by have := HM.out; omega)] at h | skip); rw [HP.out]; exact h.symm), rfl⟩

set_option maxHeartbeats 3200000 in
set_option maxRecDepth 100000 in
theorem quot2_pp (a b c : Int) (w : World) (h0 : -9223372036854775807 ≤ a) (h1 : a ≤ 9223372036854775807) (h2 : -9223372036854775807 ≤ b) (h3 : b ≤ 9223372036854775807) (c0 : 1 ≤ c) (c1 : c ≤ 9223372036854775807)
    (hq : iabs a * iabs b / c ≤ 4611686018427387904) (sa : decide (a < 0) = false) (sb : decide (b < 0) = false) (hp : a * b = (iabs a * iabs b)) :
    Calls Try.prog 53 #[.int .i64 a, .int .i64 b, .int .i64 c, .int .i64 2] w fun e w' => e = TwoI (qnear (a * b) c) 0 ∧ w = w' := by
  have ⟨a0, a1, b0, b1, p0, p1⟩ := iabs_mul h0 h1 h2 h3
  have HP := Lib.hid hp
  clear hp
  have ec : iabs c = c := by unfold iabs; rw [if_neg (by omega)]
  have sc : decide (c < 0) = false := lt_dec.1 (by omega)
  have cz : (c == 0) = false := by rw [beq_eq_false_iff_ne]; omega
  go_enter Try.func53, Try.ntmps53
  go_wp2_with (first | (go_at_call 72; refine (size_any _ _ (by omega) (by omega)).mono ?_; rintro e w' ⟨rfl, rfl⟩) | (go_at_call 71; refine (product_any _ _ _ a0 a1 b0 b1).mono ?_; rintro e w' ⟨rfl, rfl⟩))
  generalize iabs a * iabs b = P at *
  refine (divide_any P c _ p0 p1 c0 c1).mono ?_
  rintro e w' ⟨⟨qh, ql, rfl, hQ, q0, l0, l1⟩, rfl⟩
  have r0 : 0 ≤ P % c := Int.emod_nonneg _ (by omega)
  have r1 : P % c < c := Int.emod_lt_of_pos _ (by omega)
  obtain rfl : qh = 0 := by omega
  have hl : ql ≤ 4611686018427387904 := by omega
  have HV := Lib.hid (qd_pos (P := P) (Q := ql) (r := P % c) c0 (by omega) rfl)
  clear hQ hq
  have n1 := neg64 l0 (by omega)
  have n2 := neg64 (q := ql + 1) (by omega) (by omega)
  have z1 := qz l0
  generalize P % c = r at *
  by_cases hr : r = 0
  · have b1 : (r == 0) = true := by rw [beq_iff_eq]; exact hr
    have b2 : (r != 0) = false := by rw [bne_eq_false_iff_eq]; exact hr
    have b3 : (r == c - r) = false := by rw [beq_eq_false_iff_ne]; omega
    have hm : r < c - r := by omega
    have HR := Lib.hid hr
    clear hr
    go_wp2_with (first | (go_at_call 72; refine (size_any _ _ (by omega) (by omega)).mono ?_; rintro e w' ⟨rfl, rfl⟩))
    go_ret2
    exact ⟨ti (by have h := HV.out.2.2; (first | rw [if_pos HR.out] at h | rw [if_neg (by have := HR.out; omega)] at h | skip); rw [HP.out]; exact h.symm), rfl⟩
  · have b1 : (r == 0) = false := by rw [beq_eq_false_iff_ne]; exact hr
    have b2 : (r != 0) = true := by rw [bne_iff_ne]; exact hr
    have HR := Lib.hid hr
    clear hr
    by_cases hm : c - r < r
    · have b3 : (r == c - r) = false := by rw [beq_eq_false_iff_ne]; omega
      go_wp2_with (first | (go_at_call 72; refine (size_any _ _ (by omega) (by omega)).mono ?_; rintro e w' ⟨rfl, rfl⟩))
      go_ret2
      exact ⟨ti (by have h := HV.out.2.2; (first | rw [if_neg HR.out] at h | rw [if_pos (by omega)] at h | skip); rw [HP.out]; exact h.symm), rfl⟩
    · by_cases hm2 : r = c - r
      · have b3 : (r == c - r) = true := by rw [beq_iff_eq]; exact hm2
        have HM := Lib.hid hm2
        clear hm2
        go_wp2_with (first | (go_at_call 72; refine (size_any _ _ (by omega) (by omega)).mono ?_; rintro e w' ⟨rfl, rfl⟩))
        go_ret2
        exact ⟨ti (by have h := HV.out.2.2; (first | rw [if_neg HR.out] at h | rw [if_pos (Or.inr HM.out)] at h | rw [if_neg (by have := HM.out; omega)] at h | skip); rw [HP.out]; exact h.symm), rfl⟩
      · have b3 : (r == c - r) = false := by rw [beq_eq_false_iff_ne]; exact hm2
        have HM := Lib.hid hm2
        clear hm2
        go_wp2_with (first | (go_at_call 72; refine (size_any _ _ (by omega) (by omega)).mono ?_; rintro e w' ⟨rfl, rfl⟩))
        go_ret2
        exact ⟨ti (by have h := HV.out.2.2; (first | rw [if_neg HR.out] at h | rw [if_neg (by have := HM.out; omega)] at h | skip); rw [HP.out]; exact h.symm), rfl⟩

set_option maxHeartbeats 3200000 in
set_option maxRecDepth 100000 in
theorem quot2_pn (a b c : Int) (w : World) (h0 : -9223372036854775807 ≤ a) (h1 : a ≤ 9223372036854775807) (h2 : -9223372036854775807 ≤ b) (h3 : b ≤ 9223372036854775807) (c0 : 1 ≤ c) (c1 : c ≤ 9223372036854775807)
    (hq : iabs a * iabs b / c ≤ 4611686018427387904) (sa : decide (a < 0) = false) (sb : decide (b < 0) = true) (hp : a * b = -(iabs a * iabs b)) :
    Calls Try.prog 53 #[.int .i64 a, .int .i64 b, .int .i64 c, .int .i64 2] w fun e w' => e = TwoI (qnear (a * b) c) 0 ∧ w = w' := by
  have ⟨a0, a1, b0, b1, p0, p1⟩ := iabs_mul h0 h1 h2 h3
  have HP := Lib.hid hp
  clear hp
  have ec : iabs c = c := by unfold iabs; rw [if_neg (by omega)]
  have sc : decide (c < 0) = false := lt_dec.1 (by omega)
  have cz : (c == 0) = false := by rw [beq_eq_false_iff_ne]; omega
  go_enter Try.func53, Try.ntmps53
  go_wp2_with (first | (go_at_call 72; refine (size_any _ _ (by omega) (by omega)).mono ?_; rintro e w' ⟨rfl, rfl⟩) | (go_at_call 71; refine (product_any _ _ _ a0 a1 b0 b1).mono ?_; rintro e w' ⟨rfl, rfl⟩))
  generalize iabs a * iabs b = P at *
  refine (divide_any P c _ p0 p1 c0 c1).mono ?_
  rintro e w' ⟨⟨qh, ql, rfl, hQ, q0, l0, l1⟩, rfl⟩
  have r0 : 0 ≤ P % c := Int.emod_nonneg _ (by omega)
  have r1 : P % c < c := Int.emod_lt_of_pos _ (by omega)
  obtain rfl : qh = 0 := by omega
  have hl : ql ≤ 4611686018427387904 := by omega
  have HV := Lib.hid (qd_neg (P := P) (Q := ql) (r := P % c) c0 (by omega) rfl)
  clear hQ hq
  have n1 := neg64 l0 (by omega)
  have n2 := neg64 (q := ql + 1) (by omega) (by omega)
  have z1 := qz l0
  generalize P % c = r at *
  by_cases hr : r = 0
  · have b1 : (r == 0) = true := by rw [beq_iff_eq]; exact hr
    have b2 : (r != 0) = false := by rw [bne_eq_false_iff_eq]; exact hr
    have b3 : (r == c - r) = false := by rw [beq_eq_false_iff_ne]; omega
    have hm : r < c - r := by omega
    have HR := Lib.hid hr
    clear hr
    go_wp2_with (first | (go_at_call 72; refine (size_any _ _ (by omega) (by omega)).mono ?_; rintro e w' ⟨rfl, rfl⟩))
    go_ret2
    exact ⟨ti (by have h := HV.out.2.2; (first | rw [if_pos HR.out] at h | rw [if_neg (by have := HR.out; omega)] at h | skip); rw [HP.out]; exact h.symm), rfl⟩
  · have b1 : (r == 0) = false := by rw [beq_eq_false_iff_ne]; exact hr
    have b2 : (r != 0) = true := by rw [bne_iff_ne]; exact hr
    have HR := Lib.hid hr
    clear hr
    by_cases hm : c - r < r
    · have b3 : (r == c - r) = false := by rw [beq_eq_false_iff_ne]; omega
      go_wp2_with (first | (go_at_call 72; refine (size_any _ _ (by omega) (by omega)).mono ?_; rintro e w' ⟨rfl, rfl⟩))
      go_ret2
      exact ⟨ti (by have h := HV.out.2.2; (first | rw [if_neg HR.out] at h | rw [if_pos (by omega)] at h | skip); rw [HP.out]; exact h.symm), rfl⟩
    · by_cases hm2 : r = c - r
      · have b3 : (r == c - r) = true := by rw [beq_iff_eq]; exact hm2
        have HM := Lib.hid hm2
        clear hm2
        go_wp2_with (first | (go_at_call 72; refine (size_any _ _ (by omega) (by omega)).mono ?_; rintro e w' ⟨rfl, rfl⟩))
        go_ret2
        exact ⟨ti (by have h := HV.out.2.2; (first | rw [if_neg HR.out] at h | rw [if_pos (Or.inr HM.out)] at h | rw [if_neg (by have := HM.out; omega)] at h | skip); rw [HP.out]; exact h.symm), rfl⟩
      · have b3 : (r == c - r) = false := by rw [beq_eq_false_iff_ne]; exact hm2
        have HM := Lib.hid hm2
        clear hm2
        go_wp2_with (first | (go_at_call 72; refine (size_any _ _ (by omega) (by omega)).mono ?_; rintro e w' ⟨rfl, rfl⟩))
        go_ret2
        exact ⟨ti (by have h := HV.out.2.2; (first | rw [if_neg HR.out] at h | rw [if_neg (by have := HM.out; omega)] at h | skip); rw [HP.out]; exact h.symm), rfl⟩

set_option maxHeartbeats 3200000 in
set_option maxRecDepth 100000 in
theorem quot2_np (a b c : Int) (w : World) (h0 : -9223372036854775807 ≤ a) (h1 : a ≤ 9223372036854775807) (h2 : -9223372036854775807 ≤ b) (h3 : b ≤ 9223372036854775807) (c0 : 1 ≤ c) (c1 : c ≤ 9223372036854775807)
    (hq : iabs a * iabs b / c ≤ 4611686018427387904) (sa : decide (a < 0) = true) (sb : decide (b < 0) = false) (hp : a * b = -(iabs a * iabs b)) :
    Calls Try.prog 53 #[.int .i64 a, .int .i64 b, .int .i64 c, .int .i64 2] w fun e w' => e = TwoI (qnear (a * b) c) 0 ∧ w = w' := by
  have ⟨a0, a1, b0, b1, p0, p1⟩ := iabs_mul h0 h1 h2 h3
  have HP := Lib.hid hp
  clear hp
  have ec : iabs c = c := by unfold iabs; rw [if_neg (by omega)]
  have sc : decide (c < 0) = false := lt_dec.1 (by omega)
  have cz : (c == 0) = false := by rw [beq_eq_false_iff_ne]; omega
  go_enter Try.func53, Try.ntmps53
  go_wp2_with (first | (go_at_call 72; refine (size_any _ _ (by omega) (by omega)).mono ?_; rintro e w' ⟨rfl, rfl⟩) | (go_at_call 71; refine (product_any _ _ _ a0 a1 b0 b1).mono ?_; rintro e w' ⟨rfl, rfl⟩))
  generalize iabs a * iabs b = P at *
  refine (divide_any P c _ p0 p1 c0 c1).mono ?_
  rintro e w' ⟨⟨qh, ql, rfl, hQ, q0, l0, l1⟩, rfl⟩
  have r0 : 0 ≤ P % c := Int.emod_nonneg _ (by omega)
  have r1 : P % c < c := Int.emod_lt_of_pos _ (by omega)
  obtain rfl : qh = 0 := by omega
  have hl : ql ≤ 4611686018427387904 := by omega
  have HV := Lib.hid (qd_neg (P := P) (Q := ql) (r := P % c) c0 (by omega) rfl)
  clear hQ hq
  have n1 := neg64 l0 (by omega)
  have n2 := neg64 (q := ql + 1) (by omega) (by omega)
  have z1 := qz l0
  generalize P % c = r at *
  by_cases hr : r = 0
  · have b1 : (r == 0) = true := by rw [beq_iff_eq]; exact hr
    have b2 : (r != 0) = false := by rw [bne_eq_false_iff_eq]; exact hr
    have b3 : (r == c - r) = false := by rw [beq_eq_false_iff_ne]; omega
    have hm : r < c - r := by omega
    have HR := Lib.hid hr
    clear hr
    go_wp2_with (first | (go_at_call 72; refine (size_any _ _ (by omega) (by omega)).mono ?_; rintro e w' ⟨rfl, rfl⟩))
    go_ret2
    exact ⟨ti (by have h := HV.out.2.2; (first | rw [if_pos HR.out] at h | rw [if_neg (by have := HR.out; omega)] at h | skip); rw [HP.out]; exact h.symm), rfl⟩
  · have b1 : (r == 0) = false := by rw [beq_eq_false_iff_ne]; exact hr
    have b2 : (r != 0) = true := by rw [bne_iff_ne]; exact hr
    have HR := Lib.hid hr
    clear hr
    by_cases hm : c - r < r
    · have b3 : (r == c - r) = false := by rw [beq_eq_false_iff_ne]; omega
      go_wp2_with (first | (go_at_call 72; refine (size_any _ _ (by omega) (by omega)).mono ?_; rintro e w' ⟨rfl, rfl⟩))
      go_ret2
      exact ⟨ti (by have h := HV.out.2.2; (first | rw [if_neg HR.out] at h | rw [if_pos (by omega)] at h | skip); rw [HP.out]; exact h.symm), rfl⟩
    · by_cases hm2 : r = c - r
      · have b3 : (r == c - r) = true := by rw [beq_iff_eq]; exact hm2
        have HM := Lib.hid hm2
        clear hm2
        go_wp2_with (first | (go_at_call 72; refine (size_any _ _ (by omega) (by omega)).mono ?_; rintro e w' ⟨rfl, rfl⟩))
        go_ret2
        exact ⟨ti (by have h := HV.out.2.2; (first | rw [if_neg HR.out] at h | rw [if_pos (Or.inr HM.out)] at h | rw [if_neg (by have := HM.out; omega)] at h | skip); rw [HP.out]; exact h.symm), rfl⟩
      · have b3 : (r == c - r) = false := by rw [beq_eq_false_iff_ne]; exact hm2
        have HM := Lib.hid hm2
        clear hm2
        go_wp2_with (first | (go_at_call 72; refine (size_any _ _ (by omega) (by omega)).mono ?_; rintro e w' ⟨rfl, rfl⟩))
        go_ret2
        exact ⟨ti (by have h := HV.out.2.2; (first | rw [if_neg HR.out] at h | rw [if_neg (by have := HM.out; omega)] at h | skip); rw [HP.out]; exact h.symm), rfl⟩

set_option maxHeartbeats 3200000 in
set_option maxRecDepth 100000 in
theorem quot2_nn (a b c : Int) (w : World) (h0 : -9223372036854775807 ≤ a) (h1 : a ≤ 9223372036854775807) (h2 : -9223372036854775807 ≤ b) (h3 : b ≤ 9223372036854775807) (c0 : 1 ≤ c) (c1 : c ≤ 9223372036854775807)
    (hq : iabs a * iabs b / c ≤ 4611686018427387904) (sa : decide (a < 0) = true) (sb : decide (b < 0) = true) (hp : a * b = (iabs a * iabs b)) :
    Calls Try.prog 53 #[.int .i64 a, .int .i64 b, .int .i64 c, .int .i64 2] w fun e w' => e = TwoI (qnear (a * b) c) 0 ∧ w = w' := by
  have ⟨a0, a1, b0, b1, p0, p1⟩ := iabs_mul h0 h1 h2 h3
  have HP := Lib.hid hp
  clear hp
  have ec : iabs c = c := by unfold iabs; rw [if_neg (by omega)]
  have sc : decide (c < 0) = false := lt_dec.1 (by omega)
  have cz : (c == 0) = false := by rw [beq_eq_false_iff_ne]; omega
  go_enter Try.func53, Try.ntmps53
  go_wp2_with (first | (go_at_call 72; refine (size_any _ _ (by omega) (by omega)).mono ?_; rintro e w' ⟨rfl, rfl⟩) | (go_at_call 71; refine (product_any _ _ _ a0 a1 b0 b1).mono ?_; rintro e w' ⟨rfl, rfl⟩))
  generalize iabs a * iabs b = P at *
  refine (divide_any P c _ p0 p1 c0 c1).mono ?_
  rintro e w' ⟨⟨qh, ql, rfl, hQ, q0, l0, l1⟩, rfl⟩
  have r0 : 0 ≤ P % c := Int.emod_nonneg _ (by omega)
  have r1 : P % c < c := Int.emod_lt_of_pos _ (by omega)
  obtain rfl : qh = 0 := by omega
  have hl : ql ≤ 4611686018427387904 := by omega
  have HV := Lib.hid (qd_pos (P := P) (Q := ql) (r := P % c) c0 (by omega) rfl)
  clear hQ hq
  have n1 := neg64 l0 (by omega)
  have n2 := neg64 (q := ql + 1) (by omega) (by omega)
  have z1 := qz l0
  generalize P % c = r at *
  by_cases hr : r = 0
  · have b1 : (r == 0) = true := by rw [beq_iff_eq]; exact hr
    have b2 : (r != 0) = false := by rw [bne_eq_false_iff_eq]; exact hr
    have b3 : (r == c - r) = false := by rw [beq_eq_false_iff_ne]; omega
    have hm : r < c - r := by omega
    have HR := Lib.hid hr
    clear hr
    go_wp2_with (first | (go_at_call 72; refine (size_any _ _ (by omega) (by omega)).mono ?_; rintro e w' ⟨rfl, rfl⟩))
    go_ret2
    exact ⟨ti (by have h := HV.out.2.2; (first | rw [if_pos HR.out] at h | rw [if_neg (by have := HR.out; omega)] at h | skip); rw [HP.out]; exact h.symm), rfl⟩
  · have b1 : (r == 0) = false := by rw [beq_eq_false_iff_ne]; exact hr
    have b2 : (r != 0) = true := by rw [bne_iff_ne]; exact hr
    have HR := Lib.hid hr
    clear hr
    by_cases hm : c - r < r
    · have b3 : (r == c - r) = false := by rw [beq_eq_false_iff_ne]; omega
      go_wp2_with (first | (go_at_call 72; refine (size_any _ _ (by omega) (by omega)).mono ?_; rintro e w' ⟨rfl, rfl⟩))
      go_ret2
      exact ⟨ti (by have h := HV.out.2.2; (first | rw [if_neg HR.out] at h | rw [if_pos (by omega)] at h | skip); rw [HP.out]; exact h.symm), rfl⟩
    · by_cases hm2 : r = c - r
      · have b3 : (r == c - r) = true := by rw [beq_iff_eq]; exact hm2
        have HM := Lib.hid hm2
        clear hm2
        go_wp2_with (first | (go_at_call 72; refine (size_any _ _ (by omega) (by omega)).mono ?_; rintro e w' ⟨rfl, rfl⟩))
        go_ret2
        exact ⟨ti (by have h := HV.out.2.2; (first | rw [if_neg HR.out] at h | rw [if_pos (Or.inr HM.out)] at h | rw [if_neg (by have := HM.out; omega)] at h | skip); rw [HP.out]; exact h.symm), rfl⟩
      · have b3 : (r == c - r) = false := by rw [beq_eq_false_iff_ne]; exact hm2
        have HM := Lib.hid hm2
        clear hm2
        go_wp2_with (first | (go_at_call 72; refine (size_any _ _ (by omega) (by omega)).mono ?_; rintro e w' ⟨rfl, rfl⟩))
        go_ret2
        exact ⟨ti (by have h := HV.out.2.2; (first | rw [if_neg HR.out] at h | rw [if_neg (by have := HM.out; omega)] at h | skip); rw [HP.out]; exact h.symm), rfl⟩
end Go.Proofs.Ytgabdnabcpdinaa
