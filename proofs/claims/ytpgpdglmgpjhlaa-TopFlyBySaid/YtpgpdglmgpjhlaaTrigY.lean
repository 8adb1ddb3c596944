/- Atan2, Asin and Hypot of package trig: what each call returns. -/
import Derived.Test.YtpgpdglmgpjhlaaTrigX
namespace Go.Proofs.Ytpgpdglmgpjhlaa
open Go.RowKit Fdk
set_option linter.unusedVariables false

theorem abs_any (a : Int) (w : World) (h0 : -4611686018427387904 ≤ a) (h1 : a ≤ 4611686018427387904) :
    Calls Try.prog 16 #[.int .i64 a] w fun e w' => e = .returned (.int .i64 (iabs a)) ∧ w = w' := by
  by_cases h : a < 0
  · have hq : Hid (iabs a = -a) := by show iabs a = _; unfold iabs; rw [if_pos h]
    go_enter Try.func16, Try.ntmps16
    go_wp2
    go_ret
    exact ⟨ret_i64 hq.out.symm, rfl⟩
  · have hq : Hid (iabs a = a) := by show iabs a = _; unfold iabs; rw [if_neg h]
    go_enter Try.func16, Try.ntmps16
    go_wp2
    go_ret
    exact ⟨ret_i64 hq.out.symm, rfl⟩
def isOut (x : Int) : Bool := decide (2147483647 < x ∨ x < -2147483647)
theorem out_any (x : Int) (w : World) : Calls Try.prog 31 #[.int .i64 x] w fun e w' => e = .returned (.bool (isOut x)) ∧ w = w' := by
  by_cases h : 2147483647 < x
  · have hq : Hid (isOut x = true) := by show isOut x = _; unfold isOut; simp; omega
    go_enter Try.func31, Try.ntmps31
    go_wp2
    go_ret
    exact ⟨ret_bool hq.out.symm, rfl⟩
  by_cases h2 : x < -2147483647
  · have hq : Hid (isOut x = true) := by show isOut x = _; unfold isOut; simp; omega
    have hd : decide (x < -2147483647) = true := by simp; omega
    go_enter Try.func31, Try.ntmps31
    go_wp2
    go_ret
    exact ⟨ret_bool hq.out.symm, rfl⟩
  · have hq : Hid (isOut x = false) := by show isOut x = _; unfold isOut; simp; omega
    have hd : decide (x < -2147483647) = false := by simp; omega
    go_enter Try.func31, Try.ntmps31
    go_wp2
    go_ret
    exact ⟨ret_bool hq.out.symm, rfl⟩
theorem isOut_no {x : Int} (h0 : -2147483647 ≤ x) (h1 : x ≤ 2147483647) : isOut x = false := by unfold isOut; simp; omega
theorem isOut_yes {x : Int} (h : ¬ (-2147483647 ≤ x ∧ x ≤ 2147483647)) : isOut x = true := by unfold isOut; simp; omega

abbrev TwoInts (a b : Int) : Ending := .returned (.tuple #[.int .i64 a, .int .i64 b])
set_option maxHeartbeats 800000 in
theorem at2_out (y x : Int) (w : World) (h : ¬ ((-2147483647 ≤ y ∧ y ≤ 2147483647) ∧ (-2147483647 ≤ x ∧ x ≤ 2147483647))) :
    Calls Try.prog 13 #[.int .i64 y, .int .i64 x] w fun e w' => e = TwoInts 0 2 ∧ w = w' := by
  by_cases hy : -2147483647 ≤ y ∧ y ≤ 2147483647
  · have o1 := isOut_no hy.1 hy.2
    have o2 := isOut_yes (x := x) (fun k => h ⟨hy, k⟩)
    clear h hy
    go_enter Try.func13, Try.ntmps13
    go_wp2_with (first | (go_at_call 31; refine (out_any _ _).mono ?_; rintro e w' ⟨rfl, rfl⟩))
    go_ret2
    exact ⟨rfl, rfl⟩
  · have o1 := isOut_yes hy
    clear h hy
    go_enter Try.func13, Try.ntmps13
    go_wp2_with (first | (go_at_call 31; refine (out_any _ _).mono ?_; rintro e w' ⟨rfl, rfl⟩))
    go_ret2
    exact ⟨rfl, rfl⟩
set_option maxHeartbeats 800000 in
theorem at2_zero (w : World) : Calls Try.prog 13 #[.int .i64 0, .int .i64 0] w fun e w' => e = TwoInts 0 1 ∧ w = w' := by
  have o1 := isOut_no (x := 0) (by omega) (by omega)
  go_enter Try.func13, Try.ntmps13
  go_wp2_with (first | (go_at_call 31; refine (out_any _ _).mono ?_; rintro e w' ⟨rfl, rfl⟩))
  go_ret2
  exact ⟨rfl, rfl⟩
theorem iabs_b {x : Int} (h0 : -2147483647 ≤ x) (h1 : x ≤ 2147483647) : 0 ≤ iabs x ∧ iabs x ≤ 2147483647 := by unfold iabs; split <;> omega
theorem ones_new (w : World) (x y : Value) (t u : TypeId) : One ((w.alloc (.cells #[x] t)).alloc (.cells #[y] u)) w.heap.size x ∧ One ((w.alloc (.cells #[x] t)).alloc (.cells #[y] u)) (w.heap.size + 1) y :=
  ⟨(one_new w x t).alloc _, by have := one_new (w.alloc (.cells #[x] t)) y u; simpa using this⟩
set_option maxHeartbeats 3200000 in
theorem at2_any (y x : Int) (w : World) (hy0 : -2147483647 ≤ y) (hy1 : y ≤ 2147483647) (hx0 : -2147483647 ≤ x) (hx1 : x ≤ 2147483647) (hz : ¬ (y = 0 ∧ x = 0)) :
    Calls Try.prog 13 #[.int .i64 y, .int .i64 x] w fun e w' => e = TwoInts (at2 y x) 0 ∧ Below w.heap.size w w' := by
  have o1 := isOut_no hy0 hy1
  have o2 := isOut_no hx0 hx1
  have ⟨a0, a1⟩ := iabs_b hy0 hy1
  have ⟨b0, b1⟩ := iabs_b hx0 hx1
  have hz1 : (x == 0) = false ∨ ((x == 0) = true ∧ (y == 0) = false) := by
    by_cases h : x = 0
    · exact .inr ⟨by rw [beq_iff_eq]; exact h, by rw [beq_eq_false_iff_ne]; exact fun k => hz ⟨k, h⟩⟩
    · exact .inl (by rw [beq_eq_false_iff_ne]; exact h)
  clear hz
  have hsg : (0 ≤ x ∧ 0 ≤ y) ∨ (x < 0 ∧ 0 ≤ y) ∨ (x < 0 ∧ y < 0) ∨ (0 ≤ x ∧ y < 0) := by omega
  have hca : (iabs x < iabs y ∧ atq y x = 32400000 - ata (iabs y) (iabs x)) ∨ ((iabs y < iabs x) ∧ atq y x = ata (iabs x) (iabs y)) ∨ ((iabs y ≤ iabs x ∧ iabs x ≤ iabs y) ∧ atq y x = ata (iabs x) (iabs x)) := by
    unfold atq
    by_cases h1 : iabs x < iabs y
    · left; rw [if_pos h1, Int.max_eq_right (by omega), Int.min_eq_left (by omega)]; exact ⟨h1, rfl⟩
    · right; rw [if_neg h1, Int.max_eq_left (by omega), Int.min_eq_right (by omega)]
      by_cases h2 : iabs y < iabs x
      · exact .inl ⟨h2, rfl⟩
      · exact .inr ⟨⟨by omega, by omega⟩, by rw [show iabs x = iabs y by omega]⟩
  have hv : at2 y x = if 0 ≤ x ∧ 0 ≤ y then atq y x else if 0 ≤ y then 64800000 - atq y x else if x < 0 then 64800000 + atq y x else (- atq y x) % 129600000 := rfl
  rcases hsg with ⟨g1, g2⟩ | ⟨g1, g2⟩ | ⟨g1, g2⟩ | ⟨g1, g2⟩
  · rw [if_pos ⟨g1, g2⟩] at hv
    have HV := Lib.hid hv
    clear hv
    rcases hca with ⟨k1, k2⟩ | ⟨k1, k2⟩ | ⟨⟨k1, k1'⟩, k2⟩
    all_goals
      have HK := Lib.hid k2
      clear k2
      rcases hz1 with hz1 | ⟨hz1, hz2⟩
      all_goals
        go_enter Try.func13, Try.ntmps13
        go_wp2_with (first | (go_at_call 31; refine (out_any _ _).mono ?_; rintro e w' ⟨rfl, rfl⟩) | (go_at_call 16; refine (abs_any _ _ (by omega) (by omega)).mono ?_; rintro e w' ⟨rfl, rfl⟩))
        refine (greatest_a _ _ _ _ _ (by omega) (by omega) (by omega) (by omega) (ones_new w _ _ _ _).1 (ones_new w _ _ _ _).2).mono ?_
        rintro e w1 ⟨rfl, hb⟩
        have hb' := ((((Below.refl w.heap.size w).alloc (Nat.le_refl _) _).alloc (by simp) _).trans (hb.mono (by simp; omega)))
        clear hb
        have ⟨q0, q1⟩ := ata_b (iabs x) (iabs y)
        have ⟨q2, q3⟩ := ata_b (iabs y) (iabs x)
        have ⟨q4, q5⟩ := ata_b (iabs x) (iabs x)
        go_wp2_with (first | (go_at_call 34; refine (norm_any _ _).mono ?_; rintro e w' ⟨rfl, rfl⟩))
        go_ret2
        exact ⟨by rw [HV.out, HK.out]; first | rfl | skip, hb'⟩
  · rw [if_neg (by omega), if_pos g2] at hv
    have HV := Lib.hid hv
    clear hv
    rcases hca with ⟨k1, k2⟩ | ⟨k1, k2⟩ | ⟨⟨k1, k1'⟩, k2⟩
    all_goals
      have HK := Lib.hid k2
      clear k2
      rcases hz1 with hz1 | ⟨hz1, hz2⟩
      all_goals
        go_enter Try.func13, Try.ntmps13
        go_wp2_with (first | (go_at_call 31; refine (out_any _ _).mono ?_; rintro e w' ⟨rfl, rfl⟩) | (go_at_call 16; refine (abs_any _ _ (by omega) (by omega)).mono ?_; rintro e w' ⟨rfl, rfl⟩))
        refine (greatest_a _ _ _ _ _ (by omega) (by omega) (by omega) (by omega) (ones_new w _ _ _ _).1 (ones_new w _ _ _ _).2).mono ?_
        rintro e w1 ⟨rfl, hb⟩
        have hb' := ((((Below.refl w.heap.size w).alloc (Nat.le_refl _) _).alloc (by simp) _).trans (hb.mono (by simp; omega)))
        clear hb
        have ⟨q0, q1⟩ := ata_b (iabs x) (iabs y)
        have ⟨q2, q3⟩ := ata_b (iabs y) (iabs x)
        have ⟨q4, q5⟩ := ata_b (iabs x) (iabs x)
        go_wp2_with (first | (go_at_call 34; refine (norm_any _ _).mono ?_; rintro e w' ⟨rfl, rfl⟩))
        go_ret2
        exact ⟨by rw [HV.out, HK.out]; first | rfl | skip, hb'⟩
  · rw [if_neg (by omega), if_neg (by omega), if_pos g1] at hv
    have HV := Lib.hid hv
    clear hv
    rcases hca with ⟨k1, k2⟩ | ⟨k1, k2⟩ | ⟨⟨k1, k1'⟩, k2⟩
    all_goals
      have HK := Lib.hid k2
      clear k2
      rcases hz1 with hz1 | ⟨hz1, hz2⟩
      all_goals
        go_enter Try.func13, Try.ntmps13
        go_wp2_with (first | (go_at_call 31; refine (out_any _ _).mono ?_; rintro e w' ⟨rfl, rfl⟩) | (go_at_call 16; refine (abs_any _ _ (by omega) (by omega)).mono ?_; rintro e w' ⟨rfl, rfl⟩))
        refine (greatest_a _ _ _ _ _ (by omega) (by omega) (by omega) (by omega) (ones_new w _ _ _ _).1 (ones_new w _ _ _ _).2).mono ?_
        rintro e w1 ⟨rfl, hb⟩
        have hb' := ((((Below.refl w.heap.size w).alloc (Nat.le_refl _) _).alloc (by simp) _).trans (hb.mono (by simp; omega)))
        clear hb
        have ⟨q0, q1⟩ := ata_b (iabs x) (iabs y)
        have ⟨q2, q3⟩ := ata_b (iabs y) (iabs x)
        have ⟨q4, q5⟩ := ata_b (iabs x) (iabs x)
        go_wp2_with (first | (go_at_call 34; refine (norm_any _ _).mono ?_; rintro e w' ⟨rfl, rfl⟩))
        go_ret2
        exact ⟨by rw [HV.out, HK.out]; first | rfl | skip, hb'⟩
  · rw [if_neg (by omega), if_neg (by omega), if_neg (by omega)] at hv
    have HV := Lib.hid hv
    clear hv
    rcases hca with ⟨k1, k2⟩ | ⟨k1, k2⟩ | ⟨⟨k1, k1'⟩, k2⟩
    all_goals
      have HK := Lib.hid k2
      clear k2
      rcases hz1 with hz1 | ⟨hz1, hz2⟩
      all_goals
        go_enter Try.func13, Try.ntmps13
        go_wp2_with (first | (go_at_call 31; refine (out_any _ _).mono ?_; rintro e w' ⟨rfl, rfl⟩) | (go_at_call 16; refine (abs_any _ _ (by omega) (by omega)).mono ?_; rintro e w' ⟨rfl, rfl⟩))
        refine (greatest_a _ _ _ _ _ (by omega) (by omega) (by omega) (by omega) (ones_new w _ _ _ _).1 (ones_new w _ _ _ _).2).mono ?_
        rintro e w1 ⟨rfl, hb⟩
        have hb' := ((((Below.refl w.heap.size w).alloc (Nat.le_refl _) _).alloc (by simp) _).trans (hb.mono (by simp; omega)))
        clear hb
        have ⟨q0, q1⟩ := ata_b (iabs x) (iabs y)
        have ⟨q2, q3⟩ := ata_b (iabs y) (iabs x)
        have ⟨q4, q5⟩ := ata_b (iabs x) (iabs x)
        go_wp2_with (first | (go_at_call 34; refine (norm_any _ _).mono ?_; rintro e w' ⟨rfl, rfl⟩))
        go_ret2
        exact ⟨by rw [HV.out, HK.out]; first | rfl | skip, hb'⟩
end Go.Proofs.Ytpgpdglmgpjhlaa
