/- The laws of chapter 7 on quadrants and intervals: each call returns true. -/
import Derived.Test.YtdbklfledjaklaaLaw07a
import Derived.Test.YtdbklfledjaklaaTrigS
namespace Go.Proofs.Ytdbklfledjaklaa
open Go.RowKit Fdk
set_option linter.unusedVariables false

theorem at2_negy {y x : Int} (hy : y ≠ 0) (hx : x ≠ 0) : at2 (-y) x = (- at2 y x) % 129600000 := by
  have b := atq_b y x
  rw [at2_def, at2_def y x, atq_neg1]
  by_cases h1 : 0 < y <;> by_cases h2 : 0 < x
  · rw [if_neg (by omega), if_neg (by omega), if_neg (by omega), if_pos (by omega)]
  · rw [if_neg (by omega), if_neg (by omega), if_pos (by omega), if_neg (by omega), if_pos (by omega)]; omega
  · rw [if_pos (by omega), if_neg (by omega), if_neg (by omega), if_neg (by omega)]; omega
  · rw [if_neg (by omega), if_pos (by omega), if_neg (by omega), if_neg (by omega), if_pos (by omega)]; omega
theorem at2_negx {y x : Int} (hy : y ≠ 0) (hx : x ≠ 0) : at2 y (-x) = (64800000 - at2 y x) % 129600000 := by
  have b := atq_b y x
  rw [at2_def, at2_def y x, atq_neg2]
  by_cases h1 : 0 < y <;> by_cases h2 : 0 < x
  · rw [if_neg (by omega), if_pos (by omega), if_pos (by omega)]; omega
  · rw [if_pos (by omega), if_neg (by omega), if_pos (by omega)]; omega
  · rw [if_neg (by omega), if_neg (by omega), if_pos (by omega), if_neg (by omega), if_neg (by omega), if_neg (by omega)]; omega
  · rw [if_neg (by omega), if_neg (by omega), if_neg (by omega), if_neg (by omega), if_neg (by omega), if_pos (by omega)]; omega
theorem at2_swap {y x : Int} (hy : y ≠ 0) (hx : x ≠ 0) : at2 x y = (32400000 - at2 y x) % 129600000 := by
  have b := atq_b y x
  have hp : 0 < iabs x := by unfold iabs; split <;> omega
  rw [at2_def, at2_def y x, atq_swap hp]
  by_cases h1 : 0 < y <;> by_cases h2 : 0 < x
  · rw [if_pos (by omega), if_pos (by omega)]; omega
  · rw [if_neg (by omega), if_neg (by omega), if_neg (by omega), if_neg (by omega), if_pos (by omega)]; omega
  · rw [if_neg (by omega), if_pos (by omega), if_neg (by omega), if_neg (by omega), if_neg (by omega)]; omega
  · rw [if_neg (by omega), if_neg (by omega), if_pos (by omega), if_neg (by omega), if_neg (by omega), if_pos (by omega)]; omega
@[go_sem] theorem run_max_int4 {P : Program} {w : World} (ts : Array TypeId) (t : TypeId) (k k1 k2 k3 : IntKind) (x y z u : Int) : (Builtin.max_ ts t #[.int k x, .int k1 y, .int k2 z, .int k3 u]).run P w = .ok (.int k (max (max (max x y) z) u)) w := by
  have e : ∀ a b : Int, (if b > a then b else a) = max a b := fun a b => by split <;> omega
  simp [Builtin.max_, Builtin.max2, e]
/-- the greatest of y, -y, x and -x. -/
theorem max4 (y x : Int) (_h0 : -2147483647 ≤ y) (_h1 : y ≤ 2147483647) (_h2 : -2147483647 ≤ x) (_h3 : x ≤ 2147483647) (hy : y ≠ 0) : 1 ≤ max y (max (-y) (max x (-x))) ∧ max y (max (-y) (max x (-x))) ≤ 2147483647 ∧ y ≤ max y (max (-y) (max x (-x))) ∧ - max y (max (-y) (max x (-x))) ≤ y := by omega
set_option maxHeartbeats 1600000 in
theorem trigQuadrants_walk (y : Int) (hy : -9223372036854775808 ≤ y ∧ y ≤ 9223372036854775807) (x : Int) (hx : -9223372036854775808 ≤ x ∧ x ≤ 9223372036854775807) (w : World) :
    Calls Try.prog 10 #[.int .i64 y, .int .i64 x] w fun e w' => e = .returned (.bool true) ∧ Below w.heap.size w w' := by
  have ⟨y0, y1⟩ := tmod_m y
  have ⟨x0, x1⟩ := tmod_m x
  clear hy hx
  by_cases hz : x.tmod 2147483648 = 0 ∨ y.tmod 2147483648 = 0
  · have hb : (x.tmod 2147483648 == 0) = true ∨ ((x.tmod 2147483648 == 0) = false ∧ (y.tmod 2147483648 == 0) = true) := by
      by_cases h : x.tmod 2147483648 = 0
      · exact .inl (by rw [beq_iff_eq]; exact h)
      · exact .inr ⟨by rw [beq_eq_false_iff_ne]; exact h, by rw [beq_iff_eq]; exact hz.resolve_left h⟩
    clear hz
    rcases hb with hb | ⟨hb, hb2⟩
    all_goals
      go_enter Try.func10, Try.ntmps10
      go_wp2_with fail
      refine (awake_any _).mono ?_
      rintro e w1 ⟨rfl, hb1⟩
      go_wp2_with (first | (go_at_call 20; refine (at2_zero _).mono ?_; rintro e w' ⟨rfl, rfl⟩))
      go_ret
      exact ⟨rfl, hb1⟩
  · have hxz : x.tmod 2147483648 ≠ 0 := fun h => hz (.inl h)
    have hyz : y.tmod 2147483648 ≠ 0 := fun h => hz (.inr h)
    have b1 : (x.tmod 2147483648 == 0) = false := by rw [beq_eq_false_iff_ne]; exact hxz
    have b2 : (y.tmod 2147483648 == 0) = false := by rw [beq_eq_false_iff_ne]; exact hyz
    clear hz
    have HX := Lib.hid hxz
    have HY := Lib.hid hyz
    clear hxz hyz
    go_enter Try.func10, Try.ntmps10
    go_wp2_with fail
    refine (awake_any _).mono ?_
    rintro e w1 ⟨rfl, hb1⟩
    go_wp2_with fail
    generalize x.tmod 2147483648 = X at *
    generalize y.tmod 2147483648 = Y at *
    have ⟨m0, m1, m2, m3⟩ := max4 Y X y0 y1 x0 x1 HY.out
    have E1 := Lib.hid (at2_negy HY.out HX.out)
    have E2 := Lib.hid (at2_negx HY.out HX.out)
    have E3 := Lib.hid (at2_swap HY.out HX.out)
    have ⟨k0, k1⟩ := at2_b Y X
    refine (at2_any _ _ _ (by omega) (by omega) (by omega) (by omega) (by have := HX.out; have := HY.out; omega)).mono ?_
    rintro e w2 ⟨rfl, hb2⟩
    go_wp2_with fail
    refine (at2_any _ _ _ (by omega) (by omega) (by omega) (by omega) (by have := HX.out; have := HY.out; omega)).mono ?_
    rintro e w3 ⟨rfl, hb3⟩
    rw [E1.out]
    go_wp2_with fail
    refine (at2_any _ _ _ (by omega) (by omega) (by omega) (by omega) (by have := HX.out; have := HY.out; omega)).mono ?_
    rintro e w4 ⟨rfl, hb4⟩
    rw [E2.out]
    go_wp2_with fail
    refine (at2_any _ _ _ (by omega) (by omega) (by omega) (by omega) (by have := HX.out; have := HY.out; omega)).mono ?_
    rintro e w5 ⟨rfl, hb5⟩
    rw [E3.out]
    go_wp2_with (first | (go_at_call 17; refine (norm_any _ _).mono ?_; rintro e w' ⟨rfl, rfl⟩))
    have HS := Lib.hid (asi_neg Y (max Y (max (-Y) (max X (-X)))) (.inl HY.out))
    generalize max Y (max (-Y) (max X (-X))) = R at *
    have ⟨v0, v1⟩ := asi_b Y R
    refine (asin_any _ _ _ (by omega) (by omega) (by omega) (by omega)).mono ?_
    rintro e w6 ⟨rfl, hb6⟩
    go_wp2_with fail
    refine (asin_any _ _ _ (by omega) (by omega) (by omega) (by omega)).mono ?_
    rintro e w7 ⟨rfl, hb7⟩
    rw [HS.out]
    go_wp2
    go_ret
    have s1 := hb1.size
    have s2 := hb2.size
    have s3 := hb3.size
    have s4 := hb4.size
    have s5 := hb5.size
    have s6 := hb6.size
    exact ⟨rfl, hb1.trans ((hb2.mono (by omega)).trans ((hb3.mono (by omega)).trans ((hb4.mono (by omega)).trans ((hb5.mono (by omega)).trans ((hb6.mono (by omega)).trans (hb7.mono (by omega)))))))⟩
/-- an interval as it is handed back. -/
abbrev itvV (a b : Int) : Value := .agg #[.int .i64 a, .int .i64 b]
set_option maxHeartbeats 800000 in
theorem around_any (v : Int) (w : World) (h0 : -1073741824 ≤ v) (h1 : v ≤ 1073741824) :
    Calls Try.prog 45 #[.int .i64 v] w fun e w' => e = .returned (itvV (v - 2) (v + 2)) ∧ Below w.heap.size w w' := by
  go_enter Try.func45, Try.ntmps45
  go_wp2
  exact bodyPost_ret (v := itvV (v - 2) (v + 2)) (by simp [results, Try.results45, go_sem]) rfl ⟨rfl, by repeat (first | exact Below.refl _ _ | refine Below.alloc ?_ (Nat.le_refl _) _)⟩
set_option maxHeartbeats 800000 in
theorem sinIn_any (a : Int) (w : World) :
    Calls Try.prog 26 #[.int .i64 a] w fun e w' => e = .returned (itvV (sn a - 2) (sn a + 2)) ∧ Below w.heap.size w w' := by
  have ⟨s0, s1⟩ := sn_b a
  go_enter Try.func26, Try.ntmps26
  go_wp2_with (first | (go_at_call 13; refine (sin_any _ _).mono ?_; rintro e w' ⟨rfl, rfl⟩))
  refine (around_any _ _ s0 s1).mono ?_
  rintro e w1 ⟨rfl, hb1⟩
  have T1 := (cell2_new w _ _ _).below hb1 (by simp)
  have B1 := ((Below.refl w.heap.size w).alloc (Nat.le_refl _) _).trans (hb1.mono (by simp))
  obtain ⟨c10, c11, f10, f11, l1⟩ := id T1
  go_wp2
  exact bodyPost_ret (v := itvV (sn a - 2) (sn a + 2)) (by simp [results, Try.results26, go_sem, *]) rfl ⟨rfl, (B1.setCell (p := ⟨w.heap.size, 0, none⟩) (Nat.le_refl _) _).setCell (p := ⟨w.heap.size, 1, none⟩) (Nat.le_refl _) _⟩
set_option maxHeartbeats 800000 in
theorem cosIn_any (a : Int) (w : World) :
    Calls Try.prog 27 #[.int .i64 a] w fun e w' => e = .returned (itvV (cn a - 2) (cn a + 2)) ∧ Below w.heap.size w w' := by
  have ⟨s0, s1⟩ := cn_b a
  go_enter Try.func27, Try.ntmps27
  go_wp2_with (first | (go_at_call 15; refine (cos_any _ _).mono ?_; rintro e w' ⟨rfl, rfl⟩))
  refine (around_any _ _ s0 s1).mono ?_
  rintro e w1 ⟨rfl, hb1⟩
  have T1 := (cell2_new w _ _ _).below hb1 (by simp)
  have B1 := ((Below.refl w.heap.size w).alloc (Nat.le_refl _) _).trans (hb1.mono (by simp))
  obtain ⟨c10, c11, f10, f11, l1⟩ := id T1
  go_wp2
  exact bodyPost_ret (v := itvV (cn a - 2) (cn a + 2)) (by simp [results, Try.results27, go_sem, *]) rfl ⟨rfl, (B1.setCell (p := ⟨w.heap.size, 0, none⟩) (Nat.le_refl _) _).setCell (p := ⟨w.heap.size, 1, none⟩) (Nat.le_refl _) _⟩
set_option maxHeartbeats 800000 in
theorem trigIntervals_walk (a : Int) (_ : -9223372036854775808 ≤ a ∧ a ≤ 9223372036854775807) (w : World) :
    Calls Try.prog 11 #[.int .i64 a] w fun e w' => e = .returned (.bool true) ∧ Below w.heap.size w w' := by
  have ⟨s0, s1⟩ := sn_b a
  have ⟨c0, c1⟩ := cn_b a
  go_enter Try.func11, Try.ntmps11
  go_wp2_with fail
  refine (awake_any _).mono ?_
  rintro e w1 ⟨rfl, hb1⟩
  go_wp2_with fail
  refine (sinIn_any _ _).mono ?_
  rintro e w2 ⟨rfl, hb2⟩
  go_wp2_with fail
  refine (cosIn_any _ _).mono ?_
  rintro e w3 ⟨rfl, hb3⟩
  have e1 : IntKind.i64.wrap (sn a - 2) = sn a - 2 := IntWalk.i64_in _ (by omega)
  have e2 : IntKind.i64.wrap (sn a + 2) = sn a + 2 := IntWalk.i64_in _ (by omega)
  have e3 : IntKind.i64.wrap (cn a - 2) = cn a - 2 := IntWalk.i64_in _ (by omega)
  have e4 : IntKind.i64.wrap (cn a + 2) = cn a + 2 := IntWalk.i64_in _ (by omega)
  go_wp2_with fail
  go_quiet (first | (go_at_call 13; exact quiet_same (sin_any _ _)) | (go_at_call 15; exact quiet_same (cos_any _ _)))
  go_wp2
  go_ret
  have s1 := hb1.size
  have s2 := hb2.size
  have s3 := hb3.size
  have B3 := hb1.trans ((hb2.mono s1).trans (hb3.mono (by omega)))
  exact ⟨rfl, below_drewN ((B3.alloc (by omega) _).alloc (by simp; omega) _) _⟩
end Go.Proofs.Ytdbklfledjaklaa
