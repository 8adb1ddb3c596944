/- The reference's Atan2, Asin, Hypot: what each call returns. -/
import Derived.Test.YtmlacekgmdlfjaaTrigZ
namespace Go.Proofs.Ytmlacekgmdlfjaa
open Go.RowKit Fdk
set_option linter.unusedVariables false

/-! ### the reference -/
theorem rout_any (x : Int) (w : World) : Calls Try.prog 80 #[.int .i64 x] w fun e w' => e = .returned (.bool (isOut x)) ∧ w = w' := by
  by_cases h : 2147483647 < x
  · have hq : Hid (isOut x = true) := by show isOut x = _; unfold isOut; simp; omega
    go_enter Try.func80, Try.ntmps80
    go_wp2
    go_ret
    exact ⟨ret_bool hq.out.symm, rfl⟩
  by_cases h2 : x < -2147483647
  · have hq : Hid (isOut x = true) := by show isOut x = _; unfold isOut; simp; omega
    have hd : decide (x < -2147483647) = true := by simp; omega
    go_enter Try.func80, Try.ntmps80
    go_wp2
    go_ret
    exact ⟨ret_bool hq.out.symm, rfl⟩
  · have hq : Hid (isOut x = false) := by show isOut x = _; unfold isOut; simp; omega
    have hd : decide (x < -2147483647) = false := by simp; omega
    go_enter Try.func80, Try.ntmps80
    go_wp2
    go_ret
    exact ⟨ret_bool hq.out.symm, rfl⟩
set_option maxHeartbeats 800000 in
theorem rat2_out (y x : Int) (w : World) (h : ¬ ((-2147483647 ≤ y ∧ y ≤ 2147483647) ∧ (-2147483647 ≤ x ∧ x ≤ 2147483647))) :
    Calls Try.prog 61 #[.int .i64 y, .int .i64 x] w fun e w' => e = TwoInts 0 2 ∧ w = w' := by
  by_cases hy : -2147483647 ≤ y ∧ y ≤ 2147483647
  · have o1 := isOut_no hy.1 hy.2
    have o2 := isOut_yes (x := x) (fun k => h ⟨hy, k⟩)
    clear h hy
    go_enter Try.func61, Try.ntmps61
    go_wp2_with (first | (go_at_call 80; refine (rout_any _ _).mono ?_; rintro e w' ⟨rfl, rfl⟩))
    go_ret2
    exact ⟨rfl, rfl⟩
  · have o1 := isOut_yes hy
    clear h hy
    go_enter Try.func61, Try.ntmps61
    go_wp2_with (first | (go_at_call 80; refine (rout_any _ _).mono ?_; rintro e w' ⟨rfl, rfl⟩))
    go_ret2
    exact ⟨rfl, rfl⟩
set_option maxHeartbeats 800000 in
theorem rat2_zero (w : World) : Calls Try.prog 61 #[.int .i64 0, .int .i64 0] w fun e w' => e = TwoInts 0 1 ∧ w = w' := by
  have o1 := isOut_no (x := 0) (by omega) (by omega)
  go_enter Try.func61, Try.ntmps61
  go_wp2_with (first | (go_at_call 80; refine (rout_any _ _).mono ?_; rintro e w' ⟨rfl, rfl⟩))
  go_ret2
  exact ⟨rfl, rfl⟩

theorem atq_ref (y x Y X : Int) (hy : iabs y = Y) (hx : iabs x = X) : atq y x = if X < Y then 32400000 - ata (max Y X) (min Y X) else ata (max Y X) (min Y X) := by
  unfold atq; rw [hy, hx, Int.max_comm X, Int.min_comm X]
theorem iabs_pos {x : Int} (h : 0 ≤ x) : iabs x = x := by unfold iabs; rw [if_neg (by omega)]
theorem iabs_ng {x : Int} (h : x < 0) : iabs x = -x := by unfold iabs; rw [if_pos h]
theorem at2_def (y x : Int) : at2 y x = if 0 ≤ x ∧ 0 ≤ y then atq y x else if 0 ≤ y then 64800000 - atq y x else if x < 0 then 64800000 + atq y x else (- atq y x) % 129600000 := rfl
set_option maxHeartbeats 3200000 in
theorem rat2_pp (y x : Int) (w : World) (hy0 : -2147483647 ≤ y) (hy1 : y ≤ 2147483647) (hx0 : -2147483647 ≤ x) (hx1 : x ≤ 2147483647) (gy : 0 ≤ y) (gx : 0 ≤ x) (hz1 : (y == 0) = false ∨ ((y == 0) = true ∧ (x == 0) = false)) :
    Calls Try.prog 61 #[.int .i64 y, .int .i64 x] w fun e w' => e = TwoInts (at2 y x) 0 ∧ w = w' := by
  have o1 := isOut_no hy0 hy1
  have o2 := isOut_no hx0 hx1
  have hv := at2_def y x
  rw [if_pos ⟨gx, gy⟩] at hv
  have HV := Lib.hid hv
  have hk := atq_ref y x y x (iabs_pos gy) (iabs_pos gx)
  clear hv
  have m0 : 0 ≤ max y x := by omega
  have m1 : max y x ≤ 2147483647 := by omega
  have n0 : 0 ≤ min y x := by omega
  have n1 : min y x ≤ 2147483647 := by omega
  by_cases hl : x < y <;> rcases hz1 with hz1 | ⟨hz1, hz2⟩
  all_goals
    first | rw [if_pos hl] at hk | rw [if_neg hl] at hk
    have HK := Lib.hid hk
    clear hk
    go_enter Try.func61, Try.ntmps61
    go_wp2_with (first | (go_at_call 80; refine (rout_any _ _).mono ?_; rintro e w' ⟨rfl, rfl⟩))
    generalize max y x = M at *
    generalize min y x = N at *
    go_loop [10, 11] (fun c ab => ∃ p q : Int, 0 ≤ p ∧ p < q ∧ q ≤ 16200001 ∧ c = .int .i64 p ∧ ab = .int .i64 q ∧ sn p * M ≤ cn p * N ∧ (q ≤ 16200000 → cn q * N < sn q * M)) (fun c ab => (intOf ab - intOf c).toNat)
    case atStart => exact ⟨0, 16200001, by omega, by omega, by omega, rfl, rfl, by rw [sn_0, cn_0]; omega, fun h => by omega⟩
    case round =>
      obtain ⟨p, q, p0, pq, q1, rfl, rfl, hp, hq⟩ := hrel
      have HP := Lib.hid hp
      have HQ := Lib.hid hq
      clear hp hq
      by_cases hlt : 1 < q - p
      · have ⟨s0, s1⟩ := sn_b ((p + q) / 2)
        have ⟨d0, d1⟩ := cn_b ((p + q) / 2)
        have ⟨x0, x1⟩ := sm_b s0 s1 m0 (by omega)
        have ⟨y0, y1⟩ := sm_b d0 d1 n0 (by omega)
        by_cases ht : sn ((p + q) / 2) * M ≤ cn ((p + q) / 2) * N
        · have hbt : decide (sn ((p + q) / 2) * M ≤ cn ((p + q) / 2) * N) = true := decide_eq_true ht
          go_wp2_with (first | (go_at_call 35; refine (rsin_any _ _).mono ?_; rintro e w' ⟨rfl, rfl⟩) | (go_at_call 36; refine (rcos_any _ _).mono ?_; rintro e w' ⟨rfl, rfl⟩))
          go_round
          case rel => exact ⟨(p + q) / 2, q, by omega, by omega, q1, rfl, rfl, ht, HQ.out⟩
          case measure => simp [intOf]; omega
        · have hbt : decide (sn ((p + q) / 2) * M ≤ cn ((p + q) / 2) * N) = false := decide_eq_false ht
          go_wp2_with (first | (go_at_call 35; refine (rsin_any _ _).mono ?_; rintro e w' ⟨rfl, rfl⟩) | (go_at_call 36; refine (rcos_any _ _).mono ?_; rintro e w' ⟨rfl, rfl⟩))
          go_round
          case rel => exact ⟨p, (p + q) / 2, p0, by omega, by omega, rfl, rfl, HP.out, fun _ => ht⟩
          case measure => simp [intOf]; omega
      · have HA : Hid (ata M N = p) := ata_eq m0 n0 p p0 (by omega) HP.out (fun h => by rw [show p + 1 = q by omega]; exact Int.not_le.2 (HQ.out (by omega)))
        have p1 : p ≤ 16200000 := by omega
        go_wp2_with (first | (go_at_call 57; refine (rnorm_any _ _).mono ?_; rintro e w' ⟨rfl, rfl⟩))
        go_ret2
        exact ⟨by rw [HV.out, HK.out, HA.out]; first | rfl | skip, rfl⟩
set_option maxHeartbeats 3200000 in
theorem rat2_pm (y x : Int) (w : World) (hy0 : -2147483647 ≤ y) (hy1 : y ≤ 2147483647) (hx0 : -2147483647 ≤ x) (hx1 : x ≤ 2147483647) (gy : 0 ≤ y) (gx : x < 0) (hz1 : (y == 0) = false ∨ ((y == 0) = true ∧ (x == 0) = false)) :
    Calls Try.prog 61 #[.int .i64 y, .int .i64 x] w fun e w' => e = TwoInts (at2 y x) 0 ∧ w = w' := by
  have o1 := isOut_no hy0 hy1
  have o2 := isOut_no hx0 hx1
  have hv := at2_def y x
  rw [if_neg (by omega), if_pos gy] at hv
  have HV := Lib.hid hv
  have hk := atq_ref y x y (-x) (iabs_pos gy) (iabs_ng gx)
  clear hv
  have m0 : 0 ≤ max y (-x) := by omega
  have m1 : max y (-x) ≤ 2147483647 := by omega
  have n0 : 0 ≤ min y (-x) := by omega
  have n1 : min y (-x) ≤ 2147483647 := by omega
  by_cases hl : (-x) < y <;> rcases hz1 with hz1 | ⟨hz1, hz2⟩
  all_goals
    first | rw [if_pos hl] at hk | rw [if_neg hl] at hk
    have HK := Lib.hid hk
    clear hk
    go_enter Try.func61, Try.ntmps61
    go_wp2_with (first | (go_at_call 80; refine (rout_any _ _).mono ?_; rintro e w' ⟨rfl, rfl⟩))
    generalize max y (-x) = M at *
    generalize min y (-x) = N at *
    go_loop [10, 11] (fun c ab => ∃ p q : Int, 0 ≤ p ∧ p < q ∧ q ≤ 16200001 ∧ c = .int .i64 p ∧ ab = .int .i64 q ∧ sn p * M ≤ cn p * N ∧ (q ≤ 16200000 → cn q * N < sn q * M)) (fun c ab => (intOf ab - intOf c).toNat)
    case atStart => exact ⟨0, 16200001, by omega, by omega, by omega, rfl, rfl, by rw [sn_0, cn_0]; omega, fun h => by omega⟩
    case round =>
      obtain ⟨p, q, p0, pq, q1, rfl, rfl, hp, hq⟩ := hrel
      have HP := Lib.hid hp
      have HQ := Lib.hid hq
      clear hp hq
      by_cases hlt : 1 < q - p
      · have ⟨s0, s1⟩ := sn_b ((p + q) / 2)
        have ⟨d0, d1⟩ := cn_b ((p + q) / 2)
        have ⟨x0, x1⟩ := sm_b s0 s1 m0 (by omega)
        have ⟨y0, y1⟩ := sm_b d0 d1 n0 (by omega)
        by_cases ht : sn ((p + q) / 2) * M ≤ cn ((p + q) / 2) * N
        · have hbt : decide (sn ((p + q) / 2) * M ≤ cn ((p + q) / 2) * N) = true := decide_eq_true ht
          go_wp2_with (first | (go_at_call 35; refine (rsin_any _ _).mono ?_; rintro e w' ⟨rfl, rfl⟩) | (go_at_call 36; refine (rcos_any _ _).mono ?_; rintro e w' ⟨rfl, rfl⟩))
          go_round
          case rel => exact ⟨(p + q) / 2, q, by omega, by omega, q1, rfl, rfl, ht, HQ.out⟩
          case measure => simp [intOf]; omega
        · have hbt : decide (sn ((p + q) / 2) * M ≤ cn ((p + q) / 2) * N) = false := decide_eq_false ht
          go_wp2_with (first | (go_at_call 35; refine (rsin_any _ _).mono ?_; rintro e w' ⟨rfl, rfl⟩) | (go_at_call 36; refine (rcos_any _ _).mono ?_; rintro e w' ⟨rfl, rfl⟩))
          go_round
          case rel => exact ⟨p, (p + q) / 2, p0, by omega, by omega, rfl, rfl, HP.out, fun _ => ht⟩
          case measure => simp [intOf]; omega
      · have HA : Hid (ata M N = p) := ata_eq m0 n0 p p0 (by omega) HP.out (fun h => by rw [show p + 1 = q by omega]; exact Int.not_le.2 (HQ.out (by omega)))
        have p1 : p ≤ 16200000 := by omega
        go_wp2_with (first | (go_at_call 57; refine (rnorm_any _ _).mono ?_; rintro e w' ⟨rfl, rfl⟩))
        go_ret2
        exact ⟨by rw [HV.out, HK.out, HA.out]; first | rfl | skip, rfl⟩
set_option maxHeartbeats 3200000 in
theorem rat2_mm (y x : Int) (w : World) (hy0 : -2147483647 ≤ y) (hy1 : y ≤ 2147483647) (hx0 : -2147483647 ≤ x) (hx1 : x ≤ 2147483647) (gy : y < 0) (gx : x < 0) (hz1 : (y == 0) = false ∨ ((y == 0) = true ∧ (x == 0) = false)) :
    Calls Try.prog 61 #[.int .i64 y, .int .i64 x] w fun e w' => e = TwoInts (at2 y x) 0 ∧ w = w' := by
  have o1 := isOut_no hy0 hy1
  have o2 := isOut_no hx0 hx1
  have hv := at2_def y x
  rw [if_neg (by omega), if_neg (by omega), if_pos gx] at hv
  have HV := Lib.hid hv
  have hk := atq_ref y x (-y) (-x) (iabs_ng gy) (iabs_ng gx)
  clear hv
  rw [show max (-y) (-x) = - min y x by omega, show min (-y) (-x) = - max y x by omega] at hk
  have m0 : 0 ≤ - min y x := by omega
  have m1 : - min y x ≤ 2147483647 := by omega
  have n0 : 0 ≤ - max y x := by omega
  have n1 : - max y x ≤ 2147483647 := by omega
  by_cases hl : (-x) < (-y) <;> rcases hz1 with hz1 | ⟨hz1, hz2⟩
  all_goals
    first | rw [if_pos hl] at hk | rw [if_neg hl] at hk
    have HK := Lib.hid hk
    clear hk
    go_enter Try.func61, Try.ntmps61
    go_wp2_with (first | (go_at_call 80; refine (rout_any _ _).mono ?_; rintro e w' ⟨rfl, rfl⟩))
    generalize - min y x = M at *
    generalize - max y x = N at *
    go_loop [10, 11] (fun c ab => ∃ p q : Int, 0 ≤ p ∧ p < q ∧ q ≤ 16200001 ∧ c = .int .i64 p ∧ ab = .int .i64 q ∧ sn p * M ≤ cn p * N ∧ (q ≤ 16200000 → cn q * N < sn q * M)) (fun c ab => (intOf ab - intOf c).toNat)
    case atStart => exact ⟨0, 16200001, by omega, by omega, by omega, rfl, rfl, by rw [sn_0, cn_0]; omega, fun h => by omega⟩
    case round =>
      obtain ⟨p, q, p0, pq, q1, rfl, rfl, hp, hq⟩ := hrel
      have HP := Lib.hid hp
      have HQ := Lib.hid hq
      clear hp hq
      by_cases hlt : 1 < q - p
      · have ⟨s0, s1⟩ := sn_b ((p + q) / 2)
        have ⟨d0, d1⟩ := cn_b ((p + q) / 2)
        have ⟨x0, x1⟩ := sm_b s0 s1 m0 (by omega)
        have ⟨y0, y1⟩ := sm_b d0 d1 n0 (by omega)
        by_cases ht : sn ((p + q) / 2) * M ≤ cn ((p + q) / 2) * N
        · have hbt : decide (sn ((p + q) / 2) * M ≤ cn ((p + q) / 2) * N) = true := decide_eq_true ht
          go_wp2_with (first | (go_at_call 35; refine (rsin_any _ _).mono ?_; rintro e w' ⟨rfl, rfl⟩) | (go_at_call 36; refine (rcos_any _ _).mono ?_; rintro e w' ⟨rfl, rfl⟩))
          go_round
          case rel => exact ⟨(p + q) / 2, q, by omega, by omega, q1, rfl, rfl, ht, HQ.out⟩
          case measure => simp [intOf]; omega
        · have hbt : decide (sn ((p + q) / 2) * M ≤ cn ((p + q) / 2) * N) = false := decide_eq_false ht
          go_wp2_with (first | (go_at_call 35; refine (rsin_any _ _).mono ?_; rintro e w' ⟨rfl, rfl⟩) | (go_at_call 36; refine (rcos_any _ _).mono ?_; rintro e w' ⟨rfl, rfl⟩))
          go_round
          case rel => exact ⟨p, (p + q) / 2, p0, by omega, by omega, rfl, rfl, HP.out, fun _ => ht⟩
          case measure => simp [intOf]; omega
      · have HA : Hid (ata M N = p) := ata_eq m0 n0 p p0 (by omega) HP.out (fun h => by rw [show p + 1 = q by omega]; exact Int.not_le.2 (HQ.out (by omega)))
        have p1 : p ≤ 16200000 := by omega
        go_wp2_with (first | (go_at_call 57; refine (rnorm_any _ _).mono ?_; rintro e w' ⟨rfl, rfl⟩))
        go_ret2
        exact ⟨by rw [HV.out, HK.out, HA.out]; first | rfl | skip, rfl⟩
set_option maxHeartbeats 3200000 in
theorem rat2_mp (y x : Int) (w : World) (hy0 : -2147483647 ≤ y) (hy1 : y ≤ 2147483647) (hx0 : -2147483647 ≤ x) (hx1 : x ≤ 2147483647) (gy : y < 0) (gx : 0 ≤ x) (hz1 : (y == 0) = false ∨ ((y == 0) = true ∧ (x == 0) = false)) :
    Calls Try.prog 61 #[.int .i64 y, .int .i64 x] w fun e w' => e = TwoInts (at2 y x) 0 ∧ w = w' := by
  have o1 := isOut_no hy0 hy1
  have o2 := isOut_no hx0 hx1
  have hv := at2_def y x
  rw [if_neg (by omega), if_neg (by omega), if_neg (by omega)] at hv
  have HV := Lib.hid hv
  have hk := atq_ref y x (-y) x (iabs_ng gy) (iabs_pos gx)
  clear hv
  have m0 : 0 ≤ max (-y) x := by omega
  have m1 : max (-y) x ≤ 2147483647 := by omega
  have n0 : 0 ≤ min (-y) x := by omega
  have n1 : min (-y) x ≤ 2147483647 := by omega
  by_cases hl : x < (-y) <;> rcases hz1 with hz1 | ⟨hz1, hz2⟩
  all_goals
    first | rw [if_pos hl] at hk | rw [if_neg hl] at hk
    have HK := Lib.hid hk
    clear hk
    go_enter Try.func61, Try.ntmps61
    go_wp2_with (first | (go_at_call 80; refine (rout_any _ _).mono ?_; rintro e w' ⟨rfl, rfl⟩))
    generalize max (-y) x = M at *
    generalize min (-y) x = N at *
    go_loop [10, 11] (fun c ab => ∃ p q : Int, 0 ≤ p ∧ p < q ∧ q ≤ 16200001 ∧ c = .int .i64 p ∧ ab = .int .i64 q ∧ sn p * M ≤ cn p * N ∧ (q ≤ 16200000 → cn q * N < sn q * M)) (fun c ab => (intOf ab - intOf c).toNat)
    case atStart => exact ⟨0, 16200001, by omega, by omega, by omega, rfl, rfl, by rw [sn_0, cn_0]; omega, fun h => by omega⟩
    case round =>
      obtain ⟨p, q, p0, pq, q1, rfl, rfl, hp, hq⟩ := hrel
      have HP := Lib.hid hp
      have HQ := Lib.hid hq
      clear hp hq
      by_cases hlt : 1 < q - p
      · have ⟨s0, s1⟩ := sn_b ((p + q) / 2)
        have ⟨d0, d1⟩ := cn_b ((p + q) / 2)
        have ⟨x0, x1⟩ := sm_b s0 s1 m0 (by omega)
        have ⟨y0, y1⟩ := sm_b d0 d1 n0 (by omega)
        by_cases ht : sn ((p + q) / 2) * M ≤ cn ((p + q) / 2) * N
        · have hbt : decide (sn ((p + q) / 2) * M ≤ cn ((p + q) / 2) * N) = true := decide_eq_true ht
          go_wp2_with (first | (go_at_call 35; refine (rsin_any _ _).mono ?_; rintro e w' ⟨rfl, rfl⟩) | (go_at_call 36; refine (rcos_any _ _).mono ?_; rintro e w' ⟨rfl, rfl⟩))
          go_round
          case rel => exact ⟨(p + q) / 2, q, by omega, by omega, q1, rfl, rfl, ht, HQ.out⟩
          case measure => simp [intOf]; omega
        · have hbt : decide (sn ((p + q) / 2) * M ≤ cn ((p + q) / 2) * N) = false := decide_eq_false ht
          go_wp2_with (first | (go_at_call 35; refine (rsin_any _ _).mono ?_; rintro e w' ⟨rfl, rfl⟩) | (go_at_call 36; refine (rcos_any _ _).mono ?_; rintro e w' ⟨rfl, rfl⟩))
          go_round
          case rel => exact ⟨p, (p + q) / 2, p0, by omega, by omega, rfl, rfl, HP.out, fun _ => ht⟩
          case measure => simp [intOf]; omega
      · have HA : Hid (ata M N = p) := ata_eq m0 n0 p p0 (by omega) HP.out (fun h => by rw [show p + 1 = q by omega]; exact Int.not_le.2 (HQ.out (by omega)))
        have p1 : p ≤ 16200000 := by omega
        go_wp2_with (first | (go_at_call 57; refine (rnorm_any _ _).mono ?_; rintro e w' ⟨rfl, rfl⟩))
        go_ret2
        exact ⟨by rw [HV.out, HK.out, HA.out]; first | rfl | skip, rfl⟩
theorem rat2_any (y x : Int) (w : World) (hy0 : -2147483647 ≤ y) (hy1 : y ≤ 2147483647) (hx0 : -2147483647 ≤ x) (hx1 : x ≤ 2147483647) (hz : ¬ (y = 0 ∧ x = 0)) :
    Calls Try.prog 61 #[.int .i64 y, .int .i64 x] w fun e w' => e = TwoInts (at2 y x) 0 ∧ w = w' := by
  have hz1 : (y == 0) = false ∨ ((y == 0) = true ∧ (x == 0) = false) := by
    by_cases h : y = 0
    · exact .inr ⟨by rw [beq_iff_eq]; exact h, by rw [beq_eq_false_iff_ne]; exact fun k => hz ⟨h, k⟩⟩
    · exact .inl (by rw [beq_eq_false_iff_ne]; exact h)
  by_cases gy : 0 ≤ y <;> by_cases gx : 0 ≤ x
  · exact rat2_pp y x w hy0 hy1 hx0 hx1 gy gx hz1
  · exact rat2_pm y x w hy0 hy1 hx0 hx1 gy (by omega) hz1
  · exact rat2_mp y x w hy0 hy1 hx0 hx1 (by omega) gx hz1
  · exact rat2_mm y x w hy0 hy1 hx0 hx1 (by omega) (by omega) hz1
end Go.Proofs.Ytmlacekgmdlfjaa
