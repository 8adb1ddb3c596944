/- atmosphere.Level, airspeed.Crossover, airspeed.Schedule. -/
import Derived.Test.YtfchbgcgdcoplaaAirS
import Derived.Deep.RegionHeld3
namespace Go.Proofs.Ytfchbgcgdcoplaa
open Go.RowKit Go.Joins Fdk
set_option linter.unusedVariables false
set_option maxHeartbeats 1600000 in
theorem level1_any (i : Nat) (p : Int) (bt bp tb : Nat) (w : World) (hi : i < 6200000) (T : C1 w bt (.slice (some ⟨tb, 0, none⟩) 14 14)) (Q : C1 w bp (.int .i64 p)) (hT : TabAt w tb 14 (la prs) (lb prs)) :
    Calls Try.prog 20 #[.int .i64 i, .pointer (some ⟨bt, 0, none⟩), .pointer (some ⟨bp, 0, none⟩)] w fun e w' => e = .returned (.bool (decide (pre (-200000 + i) ≤ p))) ∧ Below w.heap.size w w' := by
  have hx0 : (-200000 : Int) ≤ -200000 + i := by omega
  have hx1 : (-200000 : Int) + i ≤ 6000000 := by omega
  have HV : Hid (∀ w', Below w.heap.size w w' → Calls Try.prog 13 #[.slice (some ⟨tb, 0, none⟩) 14 14, .int .i64 (-200000 + i)] w' fun e w2 => e = .returned (.int .i64 (pre (-200000 + i))) ∧ Below w'.heap.size w' w2) :=
    Lib.hid (fun w' h => value_any tb 14 (la prs) (lb prs) (-200000 + i) w' prs_tab (by omega) (hT.next h) prs_a prs_c (by omega) (by omega) (by have := pre_b hx0 hx1; unfold pre at this; omega))
  generalize pre (-200000 + i) = V at *
  have e1 : IntKind.i64.wrap (-200000 + (i : Int)) = -200000 + i := IntWalk.i64_in _ (by omega)
  have L0 : ∀ w', Below w.heap.size w w' → w'.cell? ⟨bt, 0, none⟩ = some (.slice (some ⟨tb, 0, none⟩) 14 14) := fun w' h => (T.next h).c0
  have L1 : ∀ w', Below w.heap.size w w' → w'.cell? ⟨bp, 0, none⟩ = some (.int .i64 p) := fun w' h => (Q.next h).c0
  clear T Q hT hx0 hx1 hi
  go_enter Try.func20, Try.ntmps20
  go_wp2_with fail
  go_region_held3 (fun w' => Below w.heap.size w w') (first | with_reducible exact bdrew _ | with_reducible exact hS1) (first | (go_at_call 13; with_reducible refine (HV.out _ (bdrew _)).mono ?_; rintro e x1 ⟨rfl, hb1⟩; have hS1 := thn (bdrew w) hb1))
  clear L0 L1
  have HB := Lib.hid hS1
  clear hS1 hb1
  go_wp2_with fail
  go_ret
  exact ⟨rfl, HB.out⟩
set_option maxHeartbeats 1600000 in
theorem level_any (p : Int) (w : World) (h0 : 70800 ≤ p) (h1 : p ≤ 1074400) :
    Calls Try.prog 8 #[.int .i64 p] w fun e w' => (∃ h, e = TwoI h 0 ∧ (-200000 ≤ h ∧ h ≤ 6000000) ∧ pre h ≤ p ∧ (∀ y, -200000 ≤ y → y ≤ 6000000 → pre y ≤ p → h ≤ y)) ∧ Below w.heap.size w w' := by
  go_enter Try.func8, Try.ntmps8
  go_wp2_with fail
  have Q := c1_new w (.int .i64 p) 2
  refine (prs_any _).mono ?_
  rintro e w1 ⟨⟨tb, htb, rfl, hT⟩, hb⟩
  have HB := Lib.hid (alc (thn (below_alloc1 w (.cells #[.int .i64 p] 2)) hb) (.cells #[.slice (some ⟨tb, 0, none⟩) 14 14] 32))
  have T := c1_new w1 (.slice (some ⟨tb, 0, none⟩) 14 14) 32
  replace Q := (Q.next hb).alc (.cells #[.slice (some ⟨tb, 0, none⟩) 14 14] 32)
  replace hT := hT.next (below_alloc1 w1 (.cells #[.slice (some ⟨tb, 0, none⟩) 14 14] 32))
  clear hb htb
  go_wp2_with fail
  generalize w1.alloc (.cells #[.slice (some ⟨tb, 0, none⟩) 14 14] 32) = v at *
  generalize w1.heap.size = bt at *
  have c0 := (hT.at_ 13 (by omega)).2
  rw [show lb prs 13 = 70800 from rfl] at c0
  obtain ⟨q0, q1, ql⟩ := id Q
  obtain ⟨t0, t1, tl⟩ := id T
  have k1 : ¬ p < 70800 := by omega
  go_quiet (fail)
  clear c0 q0 q1 ql t0 t1 tl k1
  replace Q := Q.next (below_draws _ v nq)
  replace T := T.next (below_draws _ v nq)
  replace hT := hT.next (below_draws _ v nq)
  have HB2 := Lib.hid (thn HB.out (below_draws _ v nq))
  clear HB
  generalize v.drewN nq = u at *
  obtain ⟨N, hN⟩ : ∃ N : Nat, N = 6200000 := ⟨_, rfl⟩
  have hNz : (6200000 : Int) = ((N : Nat) : Int) := by omega
  have HN := Lib.hid hN
  have HS := Lib.hid (search_lev bt w.heap.size N (fun i => decide (pre (-200000 + (i : Int)) ≤ p)) u (by omega) (fun i hi w' hb => level1_any i p bt w.heap.size tb w' (by have := HN.out; omega) (T.next hb) (Q.next hb) (hT.next hb)))
  clear hN Q T hT
  go_wp2_with fail
  clear hNz
  refine HS.out.mono ?_
  rintro e w2 ⟨⟨a, ha, rfl, h3, h4⟩, hb⟩
  have HB3 := Lib.hid (thn HB2.out hb)
  have H3 := Lib.hid h3
  have H4 := Lib.hid h4
  clear hb h3 h4 HB2 HS
  have haz : a ≤ 6200000 := by have := HN.out; omega
  have e1 : IntKind.i64.wrap (-200000 + (a : Int)) = -200000 + a := IntWalk.i64_in _ (by omega)
  go_wp2_with fail
  go_ret2
  refine ⟨⟨-200000 + a, rfl, by omega, ?_, fun y y0 y1 hy => ?_⟩, HB3.out⟩
  · by_cases hlt : a < N
    · exact of_decide_eq_true (H4.out hlt)
    · have : a = 6200000 := by have := HN.out; omega
      rw [show (-200000 : Int) + a = 6000000 by omega, show pre 6000000 = 70800 by decide +kernel]
      exact h0
  · rcases Int.lt_or_le y (-200000 + a) with g | g
    · exfalso
      have h5 := H3.out (by omega)
      have h6 : pre (-200000 + ((a - 1 : Nat) : Int)) ≤ pre y := pre_down (by omega)
      have h7 : ¬ pre (-200000 + ((a - 1 : Nat) : Int)) ≤ p := of_decide_eq_false h5
      omega
    · exact g
set_option maxHeartbeats 1600000 in
theorem cross1_any (i : Nat) (c d m : Int) (bc bd bm : Nat) (w : World) (hi : i ≤ 6200000) (c0 : 0 ≤ c) (c1 : c ≤ 1000) (d0 : -4000 ≤ d) (d1 : d ≤ 4000) (C : C1 w bc (.int .i64 c)) (D : C1 w bd (.int .i64 d)) (M : C1 w bm (.int .i64 m)) :
    Calls Try.prog 21 #[.int .i64 i, .pointer (some ⟨bc, 0, none⟩), .pointer (some ⟨bd, 0, none⟩), .pointer (some ⟨bm, 0, none⟩)] w fun e w' => e = .returned (.bool (decide (machv (tasv c (-200000 + i) d) (-200000 + i) d ≥ m))) ∧ Below w.heap.size w w' := by
  have hx0 : (-200000 : Int) ≤ -200000 + i := by omega
  have hx1 : (-200000 : Int) + i ≤ 6000000 := by omega
  have ht := tas_b c0 c1 hx0 hx1 d0 d1
  have HT := Lib.hid (fun w => tas_ok c (-200000 + i) d w c0 c1 hx0 hx1 d0 d1)
  have HM := Lib.hid (fun w => mach_ok (tasv c (-200000 + i) d) (-200000 + i) d w ht.1 (by omega) hx0 hx1 d0 d1)
  generalize machv (tasv c (-200000 + i) d) (-200000 + i) d = V at *
  generalize tasv c (-200000 + i) d = t at *
  have e1 : IntKind.i64.wrap (-200000 + (i : Int)) = -200000 + i := IntWalk.i64_in _ (by omega)
  clear hx0 hx1 hi c0 c1 d0 d1 ht
  obtain ⟨q0, q1, ql⟩ := id C
  obtain ⟨r0, r1, rl⟩ := id D
  go_enter Try.func21, Try.ntmps21
  go_wp2_with fail
  refine (HT.out _).mono ?_
  rintro e w1 ⟨rfl, hb⟩
  replace D := D.next hb
  replace M := M.next hb
  have HB := Lib.hid hb
  clear hb q0 q1 ql r0 r1 rl C HT
  obtain ⟨r0, r1, rl⟩ := id D
  go_wp2_with fail
  refine (HM.out _).mono ?_
  rintro e w2 ⟨rfl, hb⟩
  replace M := M.next hb
  have HB2 := Lib.hid (thn HB.out hb)
  clear hb r0 r1 rl D HM HB
  obtain ⟨r0, r1, rl⟩ := id M
  go_wp2_with fail
  go_ret
  exact ⟨ret_bool (by simp), HB2.out⟩
set_option maxHeartbeats 1600000 in
theorem crossover_any (c m d x : Int) (w : World) (c0 : 0 ≤ c) (c1 : c ≤ 1000) (m0 : 0 ≤ m) (m1 : m ≤ 2000) (d0 : -4000 ≤ d) (d1 : d ≤ 4000) (h0 : -200000 ≤ x) (h1 : x ≤ 6000000) (hm : machv (tasv c x d) x d ≥ m) :
    Calls Try.prog 10 #[.int .i64 c, .int .i64 m, .int .i64 d] w fun e w' => (∃ k, e = TwoI k 0 ∧ k ≤ x) ∧ Below w.heap.size w w' := by
  have HW1 := Lib.hid (fun w => awithin_t c 1000 w c0 c1)
  have HW2 := Lib.hid (fun w => awithin_t m 2000 w m0 m1)
  have d2 : ¬ d < -4000 := by omega
  have d3 : ¬ d > 4000 := by omega
  go_enter Try.func10, Try.ntmps10
  go_wp2_with fail
  have C := ((c1_new w (.int .i64 c) 2).alc (.cells #[.int .i64 m] 2)).alc (.cells #[.int .i64 d] 2)
  have M := (c1_new (w.alloc (.cells #[.int .i64 c] 2)) (.int .i64 m) 2).alc (.cells #[.int .i64 d] 2)
  have D := c1_new ((w.alloc (.cells #[.int .i64 c] 2)).alloc (.cells #[.int .i64 m] 2)) (.int .i64 d) 2
  rw [show (w.alloc (.cells #[.int .i64 c] 2)).heap.size = w.heap.size + 1 by simp] at M
  rw [show ((w.alloc (.cells #[.int .i64 c] 2)).alloc (.cells #[.int .i64 m] 2)).heap.size = w.heap.size + 1 + 1 by simp] at D
  have HB := Lib.hid (below_alloc3 w (.cells #[.int .i64 c] 2) (.cells #[.int .i64 m] 2) (.cells #[.int .i64 d] 2))
  generalize ((w.alloc (.cells #[.int .i64 c] 2)).alloc (.cells #[.int .i64 m] 2)).alloc (.cells #[.int .i64 d] 2) = v at *
  obtain ⟨q0, q1, ql⟩ := id C
  obtain ⟨r0, r1, rl⟩ := id M
  obtain ⟨s0, s1, sl⟩ := id D
  refine (HW1.out _).mono ?_
  rintro e w' ⟨rfl, rfl⟩
  go_wp2_with fail
  refine (HW2.out _).mono ?_
  rintro e w' ⟨rfl, rfl⟩
  obtain ⟨N, hN⟩ : ∃ N : Nat, N = 6200001 := ⟨_, rfl⟩
  have hNz : (6200001 : Int) = ((N : Nat) : Int) := by omega
  have HN := Lib.hid hN
  have HS := Lib.hid (search_crs w.heap.size (w.heap.size + 1 + 1) (w.heap.size + 1) N (fun i => decide (machv (tasv c (-200000 + (i : Int)) d) (-200000 + (i : Int)) d ≥ m)) v (by omega) (fun i hi w2 hb => cross1_any i c d m w.heap.size (w.heap.size + 1 + 1) (w.heap.size + 1) w2 (by have := HN.out; omega) c0 c1 d0 d1 (C.next hb) (D.next hb) (M.next hb)))
  clear hN C D M HW1 HW2
  go_wp2_with fail
  clear hNz
  refine HS.out.mono ?_
  rintro e w2 ⟨⟨a, ha, rfl, h3, h4⟩, hb⟩
  have HB3 := Lib.hid (thn HB.out hb)
  have hax : (-200000 : Int) + a ≤ x := by
    rcases Int.lt_or_le x (-200000 + (a : Int)) with g | g
    · exfalso
      have h5 := h3 (by omega)
      have h7 : ¬ machv (tasv c (-200000 + ((a - 1 : Nat) : Int)) d) (-200000 + ((a - 1 : Nat) : Int)) d ≥ m := of_decide_eq_false h5
      have h6 := mach_up c0 c1 h0 (show x ≤ -200000 + ((a - 1 : Nat) : Int) by omega) (by have := HN.out; omega) d0 d1
      omega
    · exact g
  have HX := Lib.hid hax
  have k1 : ((a : Int) == 6200001) = false := by rw [beq_eq_false_iff_ne]; omega
  have e1 : IntKind.i64.wrap (-200000 + (a : Int)) = -200000 + a := IntWalk.i64_in _ (by omega)
  clear hb h3 h4 HB HS q0 q1 ql r0 r1 rl s0 s1 sl hax hm
  go_wp2_with fail
  go_ret2
  exact ⟨⟨_, rfl, HX.out⟩, HB3.out⟩
set_option maxHeartbeats 1600000 in
theorem schedule_any (c m x d : Int) (w : World) (c0 : 0 ≤ c) (c1 : c ≤ 1000) (m0 : 0 ≤ m) (m1 : m ≤ 2000) (h0 : -200000 ≤ x) (h1 : x ≤ 6000000) (d0 : -4000 ≤ d) (d1 : d ≤ 4000) (hm : ofmv m x d ≤ tasv c x d) :
    Calls Try.prog 11 #[.int .i64 c, .int .i64 m, .int .i64 x, .int .i64 d] w fun e w' => e = TwoI (ofmv m x d) 0 ∧ Below w.heap.size w w' := by
  have HW1 := Lib.hid (fun w => awithin_t c 1000 w c0 c1)
  have HW2 := Lib.hid (fun w => awithin_t m 2000 w m0 m1)
  have HT := Lib.hid (fun w => tas_ok c x d w c0 c1 h0 h1 d0 d1)
  have HO := Lib.hid (fun w => ofm_ok m x d w m0 m1 h0 h1 d0 d1)
  generalize ofmv m x d = o at *
  generalize tasv c x d = t at *
  clear c0 c1 m0 m1 h0 h1 d0 d1
  have k1 : min t o = o := by omega
  go_enter Try.func11, Try.ntmps11
  go_wp2_with fail
  refine (HW1.out _).mono ?_
  rintro e w' ⟨rfl, rfl⟩
  go_wp2_with fail
  refine (HW2.out _).mono ?_
  rintro e w' ⟨rfl, rfl⟩
  go_wp2_with fail
  refine (HT.out _).mono ?_
  rintro e w1 ⟨rfl, hb⟩
  have HB := Lib.hid hb
  clear hb
  go_wp2_with fail
  refine (HO.out _).mono ?_
  rintro e w2 ⟨rfl, hb⟩
  have HB2 := Lib.hid (thn HB.out hb)
  clear hb
  go_wp2_with fail
  go_ret2
  exact ⟨rfl, HB2.out⟩
end Go.Proofs.Ytfchbgcgdcoplaa
