/- Asin and Hypot of package trig, and the reference's Atan2, Asin, Hypot: what each call returns. -/
import Derived.Test.YtdbklfledjaklaaTrigY
import Derived.Test.YtdbklfledjaklaaSqrt
namespace Go.Proofs.Ytdbklfledjaklaa
open Go.RowKit Fdk
set_option linter.unusedVariables false

/-! ### Asin -/
theorem oka_def (y r : Int) (c : Nat) : oka y r c = decide (sn c * r ≤ 1073741824 * y) := rfl
set_option maxHeartbeats 800000 in
theorem asin_1 (y r : Int) (c : Nat) (b1 b2 : Nat) (w : World) (hc : c ≤ 32400000) (hm0 : 0 ≤ r) (hm1 : r ≤ 2147483647) (hn0 : 0 ≤ y) (hn1 : y ≤ 2147483647) (h1 : w.cell? ⟨b1, 0, none⟩ = some (.int .i64 r)) (h2 : w.cell? ⟨b2, 0, none⟩ = some (.int .i64 y)) :
    Calls Try.prog 42 #[.int .i64 c, .pointer (some ⟨b1, 0, none⟩), .pointer (some ⟨b2, 0, none⟩)] w fun e w' => e = .returned (.bool (oka y r c)) ∧ Drew w w' := by
  have ⟨s0, s1⟩ := sn_b c
  have ⟨p0, p1⟩ := sm_b s0 s1 hm0 (by omega)
  have HO := Lib.hid (oka_def y r c)
  have e1 : IntKind.i64.wrap (sn c * r) = sn c * r := IntWalk.i64_in _ (by omega)
  have e2 : IntKind.i64.wrap (1073741824 * y) = 1073741824 * y := IntWalk.i64_in _ (by omega)
  go_enter Try.func42, Try.ntmps42
  go_wp2
  go_quiet ((go_at_call 13; exact quiet_same (sin_any _ _)))
  go_wp2
  go_ret
  exact ⟨ret_bool HO.out.symm, _, rfl⟩
set_option maxHeartbeats 800000 in
theorem greatest1_s (y r : Int) (c : Nat) (b0 b1 b2 : Nat) (w : World) (hc : c < 32400000) (hm0 : 0 ≤ r) (hm1 : r ≤ 2147483647) (hn0 : 0 ≤ y) (hn1 : y ≤ 2147483647)
    (o0 : One w b0 (.func (Fn.func 42) #[] #[.pointer (some ⟨b1, 0, none⟩), .pointer (some ⟨b2, 0, none⟩)])) (o1 : One w b1 (.int .i64 r)) (o2 : One w b2 (.int .i64 y)) :
    Calls Try.prog 52 #[.int .i64 c, .pointer (some ⟨b0, 0, none⟩)] w fun e w' => e = .returned (.bool (!oka y r (c + 1))) ∧ Drew w w' := by
  have e1 : (c : Int) + 1 = ((c + 1 : Nat) : Int) := by omega
  have HE := Lib.hid e1
  have c0 := o0.c0
  clear e1
  go_enter Try.func52, Try.ntmps52
  go_wp2_with fail
  rw [HE.out]
  refine (asin_1 y r (c + 1) b1 b2 _ (by omega) hm0 hm1 hn0 hn1 o1.c0 o2.c0).mono ?_
  rintro e w' ⟨rfl, hd⟩
  have HD := Lib.hid hd
  clear hd
  go_wp2
  go_ret
  exact ⟨rfl, HD.out⟩
set_option maxHeartbeats 800000 in
theorem greatest_s (y r : Int) (b1 b2 : Nat) (w : World) (hm0 : 0 ≤ r) (hm1 : r ≤ 2147483647) (hn0 : 0 ≤ y) (hn1 : y ≤ 2147483647)
    (o1 : One w b1 (.int .i64 r)) (o2 : One w b2 (.int .i64 y)) :
    Calls Try.prog 39 #[.int .i64 32400000, .func (Fn.func 42) #[] #[.pointer (some ⟨b1, 0, none⟩), .pointer (some ⟨b2, 0, none⟩)]] w fun e w' => e = .returned (.int .i64 (asq y r)) ∧ Below w.heap.size w w' := by
  have HN := Lib.hid qN_eq
  go_enter Try.func39, Try.ntmps39
  go_wp2_with fail
  rw [show (32400000 : Int) = ((qN : Nat) : Int) by rw [HN.out]; rfl]
  have Z0 := one_new w (.func (Fn.func 42) #[] #[.pointer (some ⟨b1, 0, none⟩), .pointer (some ⟨b2, 0, none⟩)]) 24
  have Z1 := o1.alloc (.cells #[.func (Fn.func 42) #[] #[.pointer (some ⟨b1, 0, none⟩), .pointer (some ⟨b2, 0, none⟩)]] 24)
  have Z2 := o2.alloc (.cells #[.func (Fn.func 42) #[] #[.pointer (some ⟨b1, 0, none⟩), .pointer (some ⟨b2, 0, none⟩)]] 24)
  refine (search_any qN w.heap.size (oka y r) _ (by rw [HN.out]; omega) (oka_0 hn0) (fun a b h hb ho => oka_mono hm0 a b h hb ho) (fun i hi w1 hd => greatest1_s y r i _ b1 b2 w1 (by rw [HN.out] at hi; exact hi) hm0 hm1 hn0 hn1 (Z0.drew hd) (Z1.drew hd) (Z2.drew hd))).mono ?_
  rintro e w' ⟨rfl, hd⟩
  have HD := Lib.hid hd
  clear hd
  go_wp2
  go_ret
  exact ⟨rfl, ((Below.refl w.heap.size w).alloc (Nat.le_refl _) _).trans (HD.out.below _)⟩
set_option maxHeartbeats 800000 in
theorem asin_nn (y r : Int) (w : World) (h0 : 0 ≤ y) (h1 : y ≤ r) (h2 : 1 ≤ r) (h3 : r ≤ 2147483647) :
    Calls Try.prog 22 #[.int .i64 y, .int .i64 r] w fun e w' => e = TwoInts (asq y r) 0 ∧ Below w.heap.size w w' := by
  have ⟨q0, q1⟩ := asq_b y r
  go_enter Try.func22, Try.ntmps22
  go_wp2_with fail
  refine (greatest_s _ _ _ _ _ (by omega) (by omega) (by omega) (by omega) (ones_new w _ _ _ _).2 (ones_new w _ _ _ _).1).mono ?_
  rintro e w1 ⟨rfl, hb⟩
  have hb' := ((((Below.refl w.heap.size w).alloc (Nat.le_refl _) _).alloc (by simp) _).trans (hb.mono (by simp; omega)))
  clear hb
  go_wp2
  go_ret2
  exact ⟨rfl, hb'⟩
theorem asi_nn {y : Int} (h : 0 ≤ y) (r : Int) : asi y r = asq y r := by unfold asi; rw [if_neg (by omega)]
theorem asi_ng {y : Int} (h : y < 0) (r : Int) : asi y r = - asq (-y) r := by unfold asi; rw [if_pos h]
set_option maxHeartbeats 800000 in
theorem asin_any (y r : Int) (w : World) (h0 : -r ≤ y) (h1 : y ≤ r) (h2 : 1 ≤ r) (h3 : r ≤ 2147483647) :
    Calls Try.prog 22 #[.int .i64 y, .int .i64 r] w fun e w' => e = TwoInts (asi y r) 0 ∧ Below w.heap.size w w' := by
  by_cases hy : 0 ≤ y
  · rw [asi_nn hy]; exact asin_nn y r w hy h1 h2 h3
  · have ⟨q0, q1⟩ := asq_b (-y) r
    have HV := Lib.hid (asi_ng (show y < 0 by omega) r)
    go_enter Try.func22, Try.ntmps22
    go_wp2_with fail
    refine (asin_nn (-y) r _ (by omega) (by omega) h2 h3).mono ?_
    rintro e w1 ⟨rfl, hb⟩
    have hb' := ((((Below.refl w.heap.size w).alloc (Nat.le_refl _) _).alloc (by simp) _).trans (hb.mono (by simp; omega)))
    clear hb
    go_wp2
    go_ret2
    exact ⟨by rw [HV.out]; rfl, hb'⟩
set_option maxHeartbeats 800000 in
theorem asin_arg (y r : Int) (w : World) (h : r < 1) :
    Calls Try.prog 22 #[.int .i64 y, .int .i64 r] w fun e w' => e = TwoInts 0 1 ∧ Below w.heap.size w w' := by
  go_enter Try.func22, Try.ntmps22
  go_wp2_with fail
  go_ret2
  exact ⟨rfl, by repeat (first | exact Below.refl _ _ | refine Below.alloc ?_ (by simp; try omega) _)⟩
set_option maxHeartbeats 800000 in
theorem asin_range (y r : Int) (w : World) (h0 : 1 ≤ r) (h1 : r ≤ 9223372036854775807) (h : ¬ (r ≤ 2147483647 ∧ y ≤ r ∧ -r ≤ y)) :
    Calls Try.prog 22 #[.int .i64 y, .int .i64 r] w fun e w' => e = TwoInts 0 2 ∧ Below w.heap.size w w' := by
  by_cases h2 : r ≤ 2147483647
  · by_cases h3 : y ≤ r
    · have h4 : y < -r := by omega
      clear h
      go_enter Try.func22, Try.ntmps22
      go_wp2_with fail
      go_ret2
      exact ⟨rfl, by repeat (first | exact Below.refl _ _ | refine Below.alloc ?_ (by simp; try omega) _)⟩
    · clear h
      go_enter Try.func22, Try.ntmps22
      go_wp2_with fail
      go_ret2
      exact ⟨rfl, by repeat (first | exact Below.refl _ _ | refine Below.alloc ?_ (by simp; try omega) _)⟩
  · clear h
    go_enter Try.func22, Try.ntmps22
    go_wp2_with fail
    go_ret2
    exact ⟨rfl, by repeat (first | exact Below.refl _ _ | refine Below.alloc ?_ (by simp; try omega) _)⟩
theorem hyp_b {x : Int} (h0 : -2147483647 ≤ x) (h1 : x ≤ 2147483647) : 0 ≤ x * x ∧ x * x ≤ 4611686014132420609 := by
  have k : x * x = iabs x * iabs x := by
    unfold iabs; split
    · exact (Int.neg_mul_neg x x).symm
    · rfl
  have ⟨a0, a1⟩ := iabs_b h0 h1
  rw [k]
  have := sq_le a0 a1
  exact ⟨Int.mul_nonneg a0 a0, by omega⟩
set_option maxHeartbeats 800000 in
theorem hyp_any (x y : Int) (w : World) (hy0 : -2147483647 ≤ y) (hy1 : y ≤ 2147483647) (hx0 : -2147483647 ≤ x) (hx1 : x ≤ 2147483647) :
    Calls Try.prog 24 #[.int .i64 x, .int .i64 y] w fun e w' => e = TwoInts (isq (x * x + y * y)) 0 ∧ w = w' := by
  have o1 := isOut_no hy0 hy1
  have o2 := isOut_no hx0 hx1
  have ⟨p0, p1⟩ := hyp_b hx0 hx1
  have ⟨q0, q1⟩ := hyp_b hy0 hy1
  go_enter Try.func24, Try.ntmps24
  go_wp2_with (first | (go_at_call 37; refine (out_any _ _).mono ?_; rintro e w' ⟨rfl, rfl⟩) | (go_at_call 43; refine (sqrt_any _ _ (by omega) (by omega)).mono ?_; rintro e w' ⟨rfl, rfl⟩))
  go_ret2
  exact ⟨rfl, rfl⟩
set_option maxHeartbeats 800000 in
theorem hyp_out (x y : Int) (w : World) (h : ¬ ((-2147483647 ≤ y ∧ y ≤ 2147483647) ∧ (-2147483647 ≤ x ∧ x ≤ 2147483647))) :
    Calls Try.prog 24 #[.int .i64 x, .int .i64 y] w fun e w' => e = TwoInts 0 2 ∧ w = w' := by
  by_cases hx : -2147483647 ≤ x ∧ x ≤ 2147483647
  · have o1 := isOut_no hx.1 hx.2
    have o2 := isOut_yes (x := y) (fun k => h ⟨k, hx⟩)
    clear h hx
    go_enter Try.func24, Try.ntmps24
    go_wp2_with (first | (go_at_call 37; refine (out_any _ _).mono ?_; rintro e w' ⟨rfl, rfl⟩))
    go_ret2
    exact ⟨rfl, rfl⟩
  · have o1 := isOut_yes hx
    clear h hx
    go_enter Try.func24, Try.ntmps24
    go_wp2_with (first | (go_at_call 37; refine (out_any _ _).mono ?_; rintro e w' ⟨rfl, rfl⟩))
    go_ret2
    exact ⟨rfl, rfl⟩

end Go.Proofs.Ytdbklfledjaklaa
