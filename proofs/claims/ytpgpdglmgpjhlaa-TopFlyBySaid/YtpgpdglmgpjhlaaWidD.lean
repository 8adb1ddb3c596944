/- Package wide: quotients, products. -/
import Derived.Test.YtpgpdglmgpjhlaaWidC
namespace Go.Proofs.Ytpgpdglmgpjhlaa
open Go.RowKit Go.Joins Fdk
set_option linter.unusedVariables false
abbrev wdV (h l : Int) : Value := .agg #[.int .i64 h, .int .u64 l]
theorem szero_t (w : World) :
    Calls Try.prog 58 #[szV 0 0] w fun e w' => e = .returned (.bool true) ∧ Below w.heap.size w w' := by
  go_enter Try.func58, Try.ntmps58
  go_wp2
  all_goals (go_ret; exact ⟨ret_bool (by simp), below_alloc1 w _⟩)
theorem szero_f (l : Int) (w : World) (hl : 0 < l) :
    Calls Try.prog 58 #[szV 0 l] w fun e w' => e = .returned (.bool false) ∧ Below w.heap.size w w' := szero_any 0 l w hl
theorem split_any (h l : Int) (w : World) (h0 : 0 ≤ h) (h1 : h < 9223372036854775808) :
    Calls Try.prog 57 #[wdV h l] w fun e w' => e = .returned (.tuple #[szV h l, .bool false]) ∧ Below w.heap.size w w' := by
  go_enter Try.func57, Try.ntmps57
  go_wp2
  exact bodyPost_ret (v := .tuple #[szV h l, .bool false]) (by simp [results, Try.results57, go_sem]) rfl ⟨rfl, below_alloc2 w _ _⟩
theorem join_any (h l : Int) (w : World) (h0 : 0 ≤ h) (h1 : h < 9223372036854775808) :
    Calls Try.prog 52 #[szV h l, .bool false] w fun e w' => e = .returned (.tuple #[wdV h l, .bool true]) ∧ Below w.heap.size w w' := by
  go_enter Try.func52, Try.ntmps52
  go_wp2
  exact bodyPost_ret (v := .tuple #[wdV h l, .bool true]) (by simp [results, Try.results52, go_sem]) rfl ⟨rfl, below_alloc2 w _ _⟩
theorem wof_any (s : Int) (w : World) (h0 : 0 ≤ s) (h1 : s < 9223372036854775808) :
    Calls Try.prog 39 #[.int .i64 s] w fun e w' => e = .returned (wdV 0 s) ∧ Below w.heap.size w w' := by
  have e1 : s / 9223372036854775808 = 0 := by omega
  go_enter Try.func39, Try.ntmps39
  go_wp2
  exact bodyPost_ret (v := wdV 0 s) (by simp [results, Try.results39, go_sem]) rfl ⟨rfl, below_alloc1 w _⟩
theorem wmul_any (a : Int) (w : World) (h0 : -9223372036854775807 ≤ a) (h1 : a ≤ 9223372036854775807) :
    Calls Try.prog 38 #[.int .i64 a, .int .i64 a] w fun e w' => e = .returned (wdV (a * a / 18446744073709551616) (a * a % 18446744073709551616)) ∧ Below w.heap.size w w' := by
  have ha : 0 ≤ iabs a ∧ iabs a ≤ 9223372036854775807 := by unfold iabs; split <;> omega
  have hm : iabs a * iabs a = a * a := by unfold iabs; split; exact Int.neg_mul_neg a a; rfl
  have hp : 0 ≤ a * a ∧ a * a ≤ 85070591730234615847396907784232501249 := by
    rw [← hm]
    exact ⟨Int.mul_nonneg ha.1 ha.1, Int.mul_le_mul ha.2 ha.2 ha.1 (by omega)⟩
  have HM := Lib.hid (fun w => mul64_any (iabs a) (iabs a) w ha.1 ha.2 ha.1 ha.2)
  rw [hm] at HM
  have HA := Lib.hid (fun w => wabs_any a w h0 h1)
  have HJ := Lib.hid (fun w => join_any (a * a / 18446744073709551616) (a * a % 18446744073709551616) w (by omega) (by omega))
  generalize a * a / 18446744073709551616 = H at *
  generalize a * a % 18446744073709551616 = L at *
  clear hm hp ha h0 h1
  go_enter Try.func38, Try.ntmps38
  go_wp2_with fail
  refine (HA.out _).mono ?_
  rintro e w' ⟨rfl, rfl⟩
  go_wp2_with fail
  refine (HA.out _).mono ?_
  rintro e w' ⟨rfl, rfl⟩
  go_wp2_with fail
  refine (HM.out _).mono ?_
  rintro e w' ⟨rfl, rfl⟩
  go_wp2_with fail
  refine (HJ.out _).mono ?_
  rintro e w1 ⟨rfl, hb⟩
  have Z := (c2_new w (.int .i64 0) (.int .u64 0) 60).next hb
  have HB := Lib.hid (thn (below_alloc1 w _) hb)
  clear hb HA HM HJ
  obtain ⟨z0, z1, z2, z3, zl⟩ := id Z
  go_wp2_with fail
  clear z0 z1 z2 z3 zl
  have Z2 := (Z.put (.int .i64 H) (.int .u64 L)).alc (.cells #[.int .i64 H, .int .u64 L] 60)
  have HB2 := Lib.hid (alc (below_put2 HB.out (b := w.heap.size) (Nat.le_refl _) (.int .i64 H) (.int .u64 L)) (.cells #[.int .i64 H, .int .u64 L] 60))
  generalize ((w1.setCell ⟨w.heap.size, 0, none⟩ (.int .i64 H)).setCell ⟨w.heap.size, 1, none⟩ (.int .u64 L)).alloc (.cells #[.int .i64 H, .int .u64 L] 60) = w5 at *
  obtain ⟨z0, z1, z2, z3, zl⟩ := Z2
  exact bodyPost_ret (v := wdV H L) (by simp [results, Try.results38, go_sem, z0, z1]) rfl ⟨rfl, HB2.out⟩
set_option maxHeartbeats 4000000 in
theorem wdiv_any (h l D : Nat) (w : World) (hh : h < 9223372036854775808) (hl : l < 18446744073709551616) (d0 : 0 < D) (d1 : D < 4611686018427387904) (hq : (h * 18446744073709551616 + l) / D < 4611686018427387904) :
    Calls Try.prog 50 #[wdV h l, wdV 0 D, .int .i64 (-1)] w fun e w' => e = .returned (.tuple #[wdV 0 (((h * 18446744073709551616 + l) / D : Nat) : Int), .bool true]) ∧ Below w.heap.size w w' := by
  have HO := Lib.hid (fun w => sover_any h l D w hh hl d0 d1 hq)
  generalize (h * 18446744073709551616 + l) / D = Q at *
  generalize (h * 18446744073709551616 + l) % D = R at *
  have HS1 := Lib.hid (fun w => split_any h l w (by omega) (by omega))
  have HS2 := Lib.hid (fun w => split_any 0 D w (by omega) (by omega))
  have HZD := Lib.hid (fun w => szero_f D w (by omega))
  have HJ := Lib.hid (fun w => join_any 0 Q w (by omega) (by omega))
  go_enter Try.func50, Try.ntmps50
  go_wp2_with fail
  refine (HS1.out _).mono ?_
  rintro e w1 ⟨rfl, hb⟩
  have Y := ((c2_new (w.alloc (.cells #[.int .i64 h, .int .u64 l] 60)) (.int .i64 0) (.int .u64 D) 60).alc (.cells #[.int .i64 0, .int .u64 0] 60)).next hb
  rw [show (w.alloc (.cells #[.int .i64 h, .int .u64 l] 60)).heap.size = w.heap.size + 1 by simp] at Y
  have Z := (c2_new ((w.alloc (.cells #[.int .i64 h, .int .u64 l] 60)).alloc (.cells #[.int .i64 0, .int .u64 D] 60)) (.int .i64 0) (.int .u64 0) 60).next hb
  rw [show ((w.alloc (.cells #[.int .i64 h, .int .u64 l] 60)).alloc (.cells #[.int .i64 0, .int .u64 D] 60)).heap.size = w.heap.size + 1 + 1 by simp] at Z
  have HB := Lib.hid (thn (below_alloc3 w (.cells #[.int .i64 h, .int .u64 l] 60) (.cells #[.int .i64 0, .int .u64 D] 60) (.cells #[.int .i64 0, .int .u64 0] 60)) hb)
  clear hb
  obtain ⟨y0, y1, y2, y3, yl⟩ := id Y
  obtain ⟨z0, z1, z2, z3, zl⟩ := id Z
  go_wp2_with fail
  clear y0 y1 y2 y3 yl z0 z1 z2 z3 zl
  have S := c2_new w1 (.int .u64 h) (.int .u64 l) 78
  replace Y := Y.alc (.cells #[.int .u64 h, .int .u64 l] 78)
  replace Z := Z.alc (.cells #[.int .u64 h, .int .u64 l] 78)
  replace HB := Lib.hid (alc HB.out (.cells #[.int .u64 h, .int .u64 l] 78))
  generalize w1.alloc (.cells #[.int .u64 h, .int .u64 l] 78) = u1 at *
  generalize w1.heap.size = bs at *
  refine (HS2.out _).mono ?_
  rintro e w2 ⟨rfl, hb⟩
  replace S := S.next hb
  replace Z := Z.next hb
  replace HB := Lib.hid (thn HB.out hb)
  clear hb Y
  obtain ⟨s0, s1, s2, s3, sl⟩ := id S
  obtain ⟨z0, z1, z2, z3, zl⟩ := id Z
  go_wp2_with fail
  clear s0 s1 s2 s3 sl z0 z1 z2 z3 zl
  have D_ := c2_new w2 (.int .u64 0) (.int .u64 D) 78
  replace S := S.alc (.cells #[.int .u64 0, .int .u64 D] 78)
  replace Z := Z.alc (.cells #[.int .u64 0, .int .u64 D] 78)
  replace HB := Lib.hid (alc HB.out (.cells #[.int .u64 0, .int .u64 D] 78))
  generalize w2.alloc (.cells #[.int .u64 0, .int .u64 D] 78) = u2 at *
  generalize w2.heap.size = bd at *
  refine (HZD.out _).mono ?_
  rintro e w3 ⟨rfl, hb⟩
  replace S := S.next hb
  replace Z := Z.next hb
  replace D_ := D_.next hb
  replace HB := Lib.hid (thn HB.out hb)
  clear hb
  obtain ⟨s0, s1, s2, s3, sl⟩ := id S
  obtain ⟨z0, z1, z2, z3, zl⟩ := id Z
  obtain ⟨d0, d1, d2, d3, dl⟩ := id D_
  go_wp2_with fail
  refine (HO.out _).mono ?_
  rintro e w4 ⟨rfl, hb⟩
  clear s0 s1 s2 s3 sl z0 z1 z2 z3 zl d0 d1 d2 d3 dl
  replace Z := Z.next hb
  replace HB := Lib.hid (thn HB.out hb)
  clear hb S D_
  obtain ⟨z0, z1, z2, z3, zl⟩ := id Z
  go_wp2_with fail
  by_cases hr : R = 0
  · rw [hr]
    have K := (c2_new w4 (.int .u64 0) (.int .u64 Q) 78).alc (.cells #[.int .u64 0, .int .u64 ((0 : Nat) : Int)] 78)
    replace Z := (Z.alc (.cells #[.int .u64 0, .int .u64 Q] 78)).alc (.cells #[.int .u64 0, .int .u64 ((0 : Nat) : Int)] 78)
    replace HB := Lib.hid (alc (alc HB.out (.cells #[.int .u64 0, .int .u64 Q] 78)) (.cells #[.int .u64 0, .int .u64 ((0 : Nat) : Int)] 78))
    clear z0 z1 z2 z3 zl
    generalize (w4.alloc (.cells #[.int .u64 0, .int .u64 Q] 78)).alloc (.cells #[.int .u64 0, .int .u64 ((0 : Nat) : Int)] 78) = u4 at *
    generalize w4.heap.size = bq at *
    refine (szero_t _).mono ?_
    rintro e w5 ⟨rfl, hb⟩
    replace K := K.next hb
    replace Z := Z.next hb
    replace HB := Lib.hid (thn HB.out hb)
    clear hb
    obtain ⟨k0, k1, k2, k3, kl⟩ := id K
    obtain ⟨z0, z1, z2, z3, zl⟩ := id Z
    go_wp2_with fail
    refine (HJ.out _).mono ?_
    rintro e w6 ⟨rfl, hb⟩
    clear k0 k1 k2 k3 kl z0 z1 z2 z3 zl
    replace Z := Z.next hb
    replace HB := Lib.hid (thn HB.out hb)
    clear hb K
    obtain ⟨z0, z1, z2, z3, zl⟩ := id Z
    go_wp2_with fail
    clear z0 z1 z2 z3 zl
    have Z2 := Z.put (.int .i64 0) (.int .u64 Q)
    have HB2 := Lib.hid (below_put2 HB.out (b := w.heap.size + 1 + 1) (Nat.le_succ_of_le (Nat.le_succ _)) (.int .i64 0) (.int .u64 Q))
    generalize (w6.setCell ⟨w.heap.size + 1 + 1, 0, none⟩ (.int .i64 0)).setCell ⟨w.heap.size + 1 + 1, 1, none⟩ (.int .u64 Q) = w7 at *
    obtain ⟨z0, z1, z2, z3, zl⟩ := Z2
    exact bodyPost_ret (v := .tuple #[wdV 0 Q, .bool true]) (by simp [results, Try.results50, go_sem, z0, z1]) rfl ⟨rfl, HB2.out⟩
  · have HZR := Lib.hid (fun w => szero_f R w (by omega))
    clear hr
    have K := (c2_new w4 (.int .u64 0) (.int .u64 Q) 78).alc (.cells #[.int .u64 0, .int .u64 R] 78)
    replace Z := (Z.alc (.cells #[.int .u64 0, .int .u64 Q] 78)).alc (.cells #[.int .u64 0, .int .u64 R] 78)
    replace HB := Lib.hid (alc (alc HB.out (.cells #[.int .u64 0, .int .u64 Q] 78)) (.cells #[.int .u64 0, .int .u64 R] 78))
    clear z0 z1 z2 z3 zl
    generalize (w4.alloc (.cells #[.int .u64 0, .int .u64 Q] 78)).alloc (.cells #[.int .u64 0, .int .u64 R] 78) = u4 at *
    generalize w4.heap.size = bq at *
    refine (HZR.out _).mono ?_
    rintro e w5 ⟨rfl, hb⟩
    replace K := K.next hb
    replace Z := Z.next hb
    replace HB := Lib.hid (thn HB.out hb)
    clear hb
    obtain ⟨k0, k1, k2, k3, kl⟩ := id K
    obtain ⟨z0, z1, z2, z3, zl⟩ := id Z
    go_wp2_with fail
    refine (HJ.out _).mono ?_
    rintro e w6 ⟨rfl, hb⟩
    clear k0 k1 k2 k3 kl z0 z1 z2 z3 zl
    replace Z := Z.next hb
    replace HB := Lib.hid (thn HB.out hb)
    clear hb K
    obtain ⟨z0, z1, z2, z3, zl⟩ := id Z
    go_wp2_with fail
    clear z0 z1 z2 z3 zl
    have Z2 := Z.put (.int .i64 0) (.int .u64 Q)
    have HB2 := Lib.hid (below_put2 HB.out (b := w.heap.size + 1 + 1) (Nat.le_succ_of_le (Nat.le_succ _)) (.int .i64 0) (.int .u64 Q))
    generalize (w6.setCell ⟨w.heap.size + 1 + 1, 0, none⟩ (.int .i64 0)).setCell ⟨w.heap.size + 1 + 1, 1, none⟩ (.int .u64 Q) = w7 at *
    obtain ⟨z0, z1, z2, z3, zl⟩ := Z2
    exact bodyPost_ret (v := .tuple #[wdV 0 Q, .bool true]) (by simp [results, Try.results50, go_sem, z0, z1]) rfl ⟨rfl, HB2.out⟩
theorem wDiv_any (h l D : Nat) (w : World) (hh : h < 9223372036854775808) (hl : l < 18446744073709551616) (d0 : 0 < D) (d1 : D < 4611686018427387904) (hq : (h * 18446744073709551616 + l) / D < 4611686018427387904) :
    Calls Try.prog 37 #[wdV h l, wdV 0 D] w fun e w' => e = .returned (.tuple #[wdV 0 (((h * 18446744073709551616 + l) / D : Nat) : Int), .bool true]) ∧ Below w.heap.size w w' := by
  have HD := Lib.hid (fun w => wdiv_any h l D w hh hl d0 d1 hq)
  generalize (h * 18446744073709551616 + l) / D = Q at *
  go_enter Try.func37, Try.ntmps37
  go_wp2_with fail
  refine (HD.out _).mono ?_
  rintro e w1 ⟨rfl, hb⟩
  have Z := (c2_new ((w.alloc (.cells #[.int .i64 h, .int .u64 l] 60)).alloc (.cells #[.int .i64 0, .int .u64 D] 60)) (.int .i64 0) (.int .u64 0) 60).next hb
  rw [show ((w.alloc (.cells #[.int .i64 h, .int .u64 l] 60)).alloc (.cells #[.int .i64 0, .int .u64 D] 60)).heap.size = w.heap.size + 1 + 1 by simp] at Z
  have HB := Lib.hid (thn (below_alloc3 w (.cells #[.int .i64 h, .int .u64 l] 60) (.cells #[.int .i64 0, .int .u64 D] 60) (.cells #[.int .i64 0, .int .u64 0] 60)) hb)
  clear hb HD
  obtain ⟨z0, z1, z2, z3, zl⟩ := id Z
  go_wp2_with fail
  clear z0 z1 z2 z3 zl
  have Z2 := Z.put (.int .i64 0) (.int .u64 Q)
  have HB2 := Lib.hid (below_put2 HB.out (b := w.heap.size + 1 + 1) (Nat.le_succ_of_le (Nat.le_succ _)) (.int .i64 0) (.int .u64 Q))
  generalize (w1.setCell ⟨w.heap.size + 1 + 1, 0, none⟩ (.int .i64 0)).setCell ⟨w.heap.size + 1 + 1, 1, none⟩ (.int .u64 Q) = w7 at *
  obtain ⟨z0, z1, z2, z3, zl⟩ := Z2
  exact bodyPost_ret (v := .tuple #[wdV 0 Q, .bool true]) (by simp [results, Try.results37, go_sem, z0, z1]) rfl ⟨rfl, HB2.out⟩
/-- the product of all 64-bit numbers. -/
theorem mul64_all (a b : Int) (w : World) (h0 : 0 ≤ a) (h1 : a ≤ 18446744073709551615) (h2 : 0 ≤ b) (h3 : b ≤ 18446744073709551615) :
    Calls Try.prog 45 #[.int .u64 a, .int .u64 b] w fun e w' => e = TwoU (a * b / 18446744073709551616) (a * b % 18446744073709551616) ∧ w = w' := by
  have HE := Lib.hid (prod_eq a b (a / 4294967296) (a % 4294967296) (b / 4294967296) (b % 4294967296) (by omega) (by omega))
  have ea := and32 h0 (by omega)
  have eb := and32 h2 (by omega)
  have ⟨p0, p1⟩ := mm (x := a % 4294967296) (y := b % 4294967296) (by omega) (by omega) (by omega) (by omega)
  have ⟨q0, q1⟩ := mm (x := a / 4294967296) (y := b % 4294967296) (by omega) (by omega) (by omega) (by omega)
  have ⟨r0, r1⟩ := mm (x := a % 4294967296) (y := b / 4294967296) (by omega) (by omega) (by omega) (by omega)
  have ⟨s0, s1⟩ := mm (x := a / 4294967296) (y := b / 4294967296) (by omega) (by omega) (by omega) (by omega)
  have em := and32 (x := a / 4294967296 * (b % 4294967296) + a % 4294967296 * (b % 4294967296) / 4294967296) (by omega) (by omega)
  have ew : IntKind.u64.wrap (a * b) = a * b % 18446744073709551616 := IntKind.wrap_u64 _
  go_enter Try.func45, Try.ntmps45
  go_wp2
  go_ret2
  have ⟨f1, f2⟩ := prod_fin HE.out
  refine ⟨?_, rfl⟩
  rw [← f1]
  first | rfl | (congr 5 <;> omega) | (simp; omega)
end Go.Proofs.Ytpgpdglmgpjhlaa
