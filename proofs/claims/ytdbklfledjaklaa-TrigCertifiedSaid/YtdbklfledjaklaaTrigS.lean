/- The reference's Asin and Hypot, the intervals around sine and cosine, and the chapter's examples. -/
import Derived.Test.YtdbklfledjaklaaTrigR
namespace Go.Proofs.Ytdbklfledjaklaa
open Go.RowKit Fdk
set_option linter.unusedVariables false

set_option maxHeartbeats 1600000 in
theorem rasin_core (y r Y : Int) (w : World) (h0 : -r ≤ y) (h1 : y ≤ r) (h2 : 1 ≤ r) (h3 : r ≤ 2147483647) (hc : (y < 0 ∧ Y = -y ∧ asi y r = - asq Y r) ∨ (0 ≤ y ∧ Y = y ∧ asi y r = asq Y r)) :
    Calls Try.prog 23 #[.int .i64 y, .int .i64 r] w fun e w' => e = TwoInts (asi y r) 0 ∧ w = w' := by
  have hb : Hid (∀ p q : Int, 0 ≤ p → p < q → ¬ 1 < q - p → q ≤ 32400001 → 0 ≤ Y → sn p * r ≤ 1073741824 * Y → (q ≤ 32400000 → 1073741824 * Y < sn q * r) → asq Y r = p) :=
    fun p q p0 pq hlt q1 hY hp hq => asq_eq (by omega) p p0 (by omega) hp (fun h => by rw [show p + 1 = q by omega]; exact Int.not_le.2 (hq (by omega)))
  rcases hc with ⟨hy, rfl, hv⟩ | ⟨hy, rfl, hv⟩
  · have HV := Lib.hid hv
    clear hv
    go_enter Try.func23, Try.ntmps23
    go_wp2
    go_loop [7, 8] (fun c ab => ∃ p q : Int, 0 ≤ p ∧ p < q ∧ q ≤ 32400001 ∧ c = .int .i64 p ∧ ab = .int .i64 q ∧ sn p * r ≤ 1073741824 * (-y) ∧ (q ≤ 32400000 → 1073741824 * (-y) < sn q * r)) (fun c ab => (intOf ab - intOf c).toNat)
    case atStart => exact ⟨0, 32400001, by omega, by omega, by omega, rfl, rfl, by rw [sn_0]; omega, fun h => by omega⟩
    case round =>
      obtain ⟨p, q, p0, pq, q1, rfl, rfl, hp, hq⟩ := hrel
      have HP := Lib.hid hp
      have HQ := Lib.hid hq
      clear hp hq
      by_cases hlt : 1 < q - p
      · have ⟨s0, s1⟩ := sn_b ((p + q) / 2)
        have ⟨x0, x1⟩ := sm_b s0 s1 (m := r) (by omega) (by omega)
        by_cases ht : sn ((p + q) / 2) * r ≤ 1073741824 * (-y)
        · have hbt : decide (sn ((p + q) / 2) * r ≤ 1073741824 * (-y)) = true := decide_eq_true ht
          have HT := Lib.hid ht
          go_wp2_with (first | (go_at_call 14; refine (rsin_any _ _).mono ?_; rintro e w' ⟨rfl, rfl⟩))
          go_round
          case rel => exact ⟨(p + q) / 2, q, by omega, by omega, q1, rfl, rfl, HT.out, HQ.out⟩
          case measure => simp [intOf]; omega
        · have hbt : decide (sn ((p + q) / 2) * r ≤ 1073741824 * (-y)) = false := decide_eq_false ht
          have HT := Lib.hid (Int.not_le.1 ht)
          go_wp2_with (first | (go_at_call 14; refine (rsin_any _ _).mono ?_; rintro e w' ⟨rfl, rfl⟩))
          go_round
          case rel => exact ⟨p, (p + q) / 2, p0, by omega, by omega, rfl, rfl, HP.out, fun _ => HT.out⟩
          case measure => simp [intOf]; omega
      · have HA := Lib.hid (hb.out p q p0 pq (by omega) q1 (by omega) HP.out HQ.out)
        have p1 : p ≤ 32400000 := by omega
        go_wp2
        go_ret2
        exact ⟨by rw [HV.out, HA.out]; first | rfl | skip, rfl⟩
  · have HV := Lib.hid hv
    clear hv
    go_enter Try.func23, Try.ntmps23
    go_wp2
    go_loop [7, 8] (fun c ab => ∃ p q : Int, 0 ≤ p ∧ p < q ∧ q ≤ 32400001 ∧ c = .int .i64 p ∧ ab = .int .i64 q ∧ sn p * r ≤ 1073741824 * Y ∧ (q ≤ 32400000 → 1073741824 * Y < sn q * r)) (fun c ab => (intOf ab - intOf c).toNat)
    case atStart => exact ⟨0, 32400001, by omega, by omega, by omega, rfl, rfl, by rw [sn_0]; omega, fun h => by omega⟩
    case round =>
      obtain ⟨p, q, p0, pq, q1, rfl, rfl, hp, hq⟩ := hrel
      have HP := Lib.hid hp
      have HQ := Lib.hid hq
      clear hp hq
      by_cases hlt : 1 < q - p
      · have ⟨s0, s1⟩ := sn_b ((p + q) / 2)
        have ⟨x0, x1⟩ := sm_b s0 s1 (m := r) (by omega) (by omega)
        by_cases ht : sn ((p + q) / 2) * r ≤ 1073741824 * Y
        · have hbt : decide (sn ((p + q) / 2) * r ≤ 1073741824 * Y) = true := decide_eq_true ht
          have HT := Lib.hid ht
          go_wp2_with (first | (go_at_call 14; refine (rsin_any _ _).mono ?_; rintro e w' ⟨rfl, rfl⟩))
          go_round
          case rel => exact ⟨(p + q) / 2, q, by omega, by omega, q1, rfl, rfl, HT.out, HQ.out⟩
          case measure => simp [intOf]; omega
        · have hbt : decide (sn ((p + q) / 2) * r ≤ 1073741824 * Y) = false := decide_eq_false ht
          have HT := Lib.hid (Int.not_le.1 ht)
          go_wp2_with (first | (go_at_call 14; refine (rsin_any _ _).mono ?_; rintro e w' ⟨rfl, rfl⟩))
          go_round
          case rel => exact ⟨p, (p + q) / 2, p0, by omega, by omega, rfl, rfl, HP.out, fun _ => HT.out⟩
          case measure => simp [intOf]; omega
      · have HA := Lib.hid (hb.out p q p0 pq (by omega) q1 (by omega) HP.out HQ.out)
        have p1 : p ≤ 32400000 := by omega
        go_wp2
        go_ret2
        exact ⟨by rw [HV.out, HA.out]; first | rfl | skip, rfl⟩
theorem rasin_any (y r : Int) (w : World) (h0 : -r ≤ y) (h1 : y ≤ r) (h2 : 1 ≤ r) (h3 : r ≤ 2147483647) :
    Calls Try.prog 23 #[.int .i64 y, .int .i64 r] w fun e w' => e = TwoInts (asi y r) 0 ∧ w = w' := by
  by_cases hy : 0 ≤ y
  · exact rasin_core y r y w h0 h1 h2 h3 (.inr ⟨hy, rfl, asi_nn hy r⟩)
  · exact rasin_core y r (-y) w h0 h1 h2 h3 (.inl ⟨by omega, rfl, asi_ng (by omega) r⟩)
set_option maxHeartbeats 800000 in
theorem rasin_arg (y r : Int) (w : World) (h : r < 1) :
    Calls Try.prog 23 #[.int .i64 y, .int .i64 r] w fun e w' => e = TwoInts 0 1 ∧ w = w' := by
  go_enter Try.func23, Try.ntmps23
  go_wp2_with fail
  go_ret2
  exact ⟨rfl, rfl⟩
set_option maxHeartbeats 800000 in
theorem rasin_range (y r : Int) (w : World) (h0 : 1 ≤ r) (h1 : r ≤ 9223372036854775807) (h : ¬ (r ≤ 2147483647 ∧ y ≤ r ∧ -r ≤ y)) :
    Calls Try.prog 23 #[.int .i64 y, .int .i64 r] w fun e w' => e = TwoInts 0 2 ∧ w = w' := by
  by_cases h2 : r ≤ 2147483647
  · by_cases h3 : y ≤ r
    · have h4 : y < -r := by omega
      clear h
      go_enter Try.func23, Try.ntmps23
      go_wp2_with fail
      go_ret2
      exact ⟨rfl, rfl⟩
    · clear h
      go_enter Try.func23, Try.ntmps23
      go_wp2_with fail
      go_ret2
      exact ⟨rfl, rfl⟩
  · clear h
    go_enter Try.func23, Try.ntmps23
    go_wp2_with fail
    go_ret2
    exact ⟨rfl, rfl⟩
set_option maxHeartbeats 800000 in
theorem rhyp_any (x y : Int) (w : World) (hy0 : -2147483647 ≤ y) (hy1 : y ≤ 2147483647) (hx0 : -2147483647 ≤ x) (hx1 : x ≤ 2147483647) :
    Calls Try.prog 25 #[.int .i64 x, .int .i64 y] w fun e w' => e = TwoInts (isq (x * x + y * y)) 0 ∧ w = w' := by
  have o1 := isOut_no hy0 hy1
  have o2 := isOut_no hx0 hx1
  have ⟨p0, p1⟩ := hyp_b hx0 hx1
  have ⟨q0, q1⟩ := hyp_b hy0 hy1
  go_enter Try.func25, Try.ntmps25
  go_wp2_with (first | (go_at_call 41; refine (rout_any _ _).mono ?_; rintro e w' ⟨rfl, rfl⟩) | (go_at_call 44; refine (rsqrt_any _ _ (by omega) (by omega)).mono ?_; rintro e w' ⟨rfl, rfl⟩))
  go_ret2
  exact ⟨rfl, rfl⟩
set_option maxHeartbeats 800000 in
theorem rhyp_out (x y : Int) (w : World) (h : ¬ ((-2147483647 ≤ y ∧ y ≤ 2147483647) ∧ (-2147483647 ≤ x ∧ x ≤ 2147483647))) :
    Calls Try.prog 25 #[.int .i64 x, .int .i64 y] w fun e w' => e = TwoInts 0 2 ∧ w = w' := by
  by_cases hx : -2147483647 ≤ x ∧ x ≤ 2147483647
  · have o1 := isOut_no hx.1 hx.2
    have o2 := isOut_yes (x := y) (fun k => h ⟨k, hx⟩)
    clear h hx
    go_enter Try.func25, Try.ntmps25
    go_wp2_with (first | (go_at_call 41; refine (rout_any _ _).mono ?_; rintro e w' ⟨rfl, rfl⟩))
    go_ret2
    exact ⟨rfl, rfl⟩
  · have o1 := isOut_yes hx
    clear h hx
    go_enter Try.func25, Try.ntmps25
    go_wp2_with (first | (go_at_call 41; refine (rout_any _ _).mono ?_; rintro e w' ⟨rfl, rfl⟩))
    go_ret2
    exact ⟨rfl, rfl⟩
theorem ex_s30 : sn 10800000 = 536870912 := by unfold sn; decide +kernel
theorem ex_c60 : cn 21600000 = 536870912 := by unfold cn sn; decide +kernel
theorem ex_sq : sn 32400000 = 1073741824 := by unfold sn; decide +kernel
theorem ex_at11 : at2 1 1 = 16200000 := by
  rw [at2, if_pos ⟨by decide, by decide⟩, atq, if_neg (by decide), show max (iabs 1) (iabs 1) = 1 from rfl, show min (iabs 1) (iabs 1) = 1 from rfl, ata_E (by decide)]
theorem ata_z {m : Int} (hm : 0 < m) : ata m 0 = 0 := by
  refine ata_eq (by omega) (Int.le_refl _) 0 (Int.le_refl _) (by omega) (by rw [sn_0]; omega) (fun _ => ?_)
  have := sn_rise (a := 0) (b := 0 + 1) (by omega) (by omega) (by omega)
  rw [sn_0] at this
  have := Int.mul_pos (a := sn (0 + 1)) (b := m) (by omega) hm
  rw [Int.mul_zero]; omega
theorem ex_at10 : at2 (-1) 0 = 97200000 := by
  rw [at2, if_neg (by decide), if_neg (by decide), if_neg (by decide), atq, if_pos (by decide), show max (iabs 0) (iabs (-1)) = 1 from rfl, show min (iabs 0) (iabs (-1)) = 0 from rfl, ata_z (by decide)]
  rfl
theorem ex_as : asi 1 2 = 10800000 := by
  rw [asi, if_neg (by decide)]
  refine asq_eq (by omega) 10800000 (by omega) (by omega) (by rw [ex_s30]; decide) (fun _ => ?_)
  have e : sn (10800000 + 1) = 536870957 := by unfold sn; decide +kernel
  rw [e]; decide
theorem ex_hy : isq (3 * 3 + 4 * 4) = 5 := isq_eq (by omega) (by omega) (by decide) (by decide)
set_option maxHeartbeats 1600000 in
theorem awake_any (w : World) : Calls Try.prog 12 #[] w fun e w' => e = .returned (.bool true) ∧ Below w.heap.size w w' := by
  have e0 := sn_0
  have e1 := ex_s30
  have e2 := ex_c60
  have e3 := ex_sq
  have e4 := ex_at11
  have e5 := ex_at10
  have e6 := ex_as
  have e7 := ex_hy
  go_enter Try.func12, Try.ntmps12
  go_wp2_with (first | (go_at_call 13; refine (sin_any _ _).mono ?_; rintro e w' ⟨rfl, rfl⟩) | (go_at_call 15; refine (cos_any _ _).mono ?_; rintro e w' ⟨rfl, rfl⟩))
  refine (at2_any 1 1 _ (by omega) (by omega) (by omega) (by omega) (by omega)).mono ?_
  rintro e w1 ⟨rfl, hb1⟩
  go_wp2_with fail
  refine (at2_any (-1) 0 _ (by omega) (by omega) (by omega) (by omega) (by omega)).mono ?_
  rintro e w2 ⟨rfl, hb2⟩
  go_wp2_with fail
  refine (asin_any 1 2 _ (by omega) (by omega) (by omega) (by omega)).mono ?_
  rintro e w3 ⟨rfl, hb3⟩
  go_wp2_with fail
  refine (hyp_any 3 4 _ (by omega) (by omega) (by omega) (by omega)).mono ?_
  rintro e w4 ⟨rfl, rfl⟩
  rw [e7]
  go_wp2
  go_ret
  have s1 := hb1.size
  have s2 := hb2.size
  exact ⟨rfl, hb1.trans ((hb2.mono (by omega)).trans (hb3.mono (by omega)))⟩
end Go.Proofs.Ytdbklfledjaklaa
