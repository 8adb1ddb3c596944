/- Velocities of package inertial; the chapter's examples hold. -/
import Derived.Test.YtfeoladkpgojpaaIner3
import Derived.Test.YtfeoladkpgojpaaScale
namespace Go.Proofs.Ytfeoladkpgojpaa
open Go.RowKit Go.Joins Fdk
set_option linter.unusedVariables false

theorem round_any (a c : Int) (w : World) (h0 : -4611686018427387904 ≤ a) (h1 : a ≤ 4611686018427387904) (c0 : 1 ≤ c) (c1 : c ≤ 9223372036854775807) :
    Calls Try.prog 36 #[.int .i64 a, .int .i64 c] w fun e w' => e = TwoI (qnear a c) 0 ∧ Drew w w' := by
  have i1 : iabs 1 = 1 := by decide
  have hq : Hid (Calls Try.prog 50 #[.int .i64 a, .int .i64 1, .int .i64 c, .int .u8 2] w fun e w' => e = TwoI (qnear (a * 1) c) 0 ∧ Drew w w') := by
    by_cases hs : 0 ≤ a
    · have i2 : iabs a = a := by unfold iabs; rw [if_neg (by omega)]
      have k1 : a / c ≤ a := Int.ediv_le_self _ hs
      exact Lib.hid (scale2_pp a 1 c w (by omega) (by omega) (by omega) (by omega) c0 c1 (by rw [i1, i2]; omega) (by rw [i1, i2, Int.mul_one]; omega) (lt_dec.1 hs) (lt_dec.1 (by omega)) (by rw [i1, i2]))
    · have i2 : iabs a = -a := by unfold iabs; rw [if_pos (by omega)]
      have k1 : -a / c ≤ -a := Int.ediv_le_self _ (by omega)
      exact Lib.hid (scale2_np a 1 c w (by omega) (by omega) (by omega) (by omega) c0 c1 (by rw [i1, i2]; omega) (by rw [i1, i2, Int.mul_one]; omega) (lt_dec.2 (by omega)) (lt_dec.1 (by omega)) (by rw [i1, i2]; omega))
  have e1 : qnear (a * 1) c = qnear a c := by rw [Int.mul_one]
  go_enter Try.func36, Try.ntmps36
  go_wp2_with fail
  refine hq.out.mono ?_
  rintro e w' ⟨rfl, hd⟩
  have HD := Lib.hid hd
  clear hd
  rw [e1]
  go_wp2
  go_ret2
  exact ⟨rfl, HD.out⟩
/-- the velocity, and the error. -/
def velo (t s : Int) : Int × Int × Int := if inb s 0 2000 then (qnear (s * sn t) 1073741824, qnear (s * cn t) 1073741824, 0) else (0, 0, 2)
abbrev Ve3 (c : Int × Int × Int) : Ending := .returned (.tuple #[ptV c.1 c.2.1, .int .i64 c.2.2])
theorem ve3 {c d : Int × Int × Int} (h : c = d) : Ve3 c = Ve3 d := by rw [h]
theorem spb {s m : Int} (h0 : -1073741824 ≤ m) (h1 : m ≤ 1073741824) (s0 : 0 ≤ s) (s1 : s ≤ 2000) : -2147483648000 ≤ s * m ∧ s * m ≤ 2147483648000 := by
  have k1 : s * m ≤ s * 1073741824 := Int.mul_le_mul_of_nonneg_left h1 s0
  have k2 : s * -1073741824 ≤ s * m := Int.mul_le_mul_of_nonneg_left h0 s0
  generalize s * m = P at *
  omega
set_option maxHeartbeats 1600000 in
theorem ivelo_any (t s : Int) (w : World) :
    Calls Try.prog 24 #[.int .i64 t, .int .i64 s] w fun e w' => e = Ve3 (velo t s) ∧ Below w.heap.size w w' := by
  cases h1 : inb s 0 2000
  · have hh := Lib.hid (show velo t s = (0, 0, 2) by simp [velo, h1])
    go_enter Try.func24, Try.ntmps24
    go_wp2_with (first | (go_at_call 29; refine (ifrom_any _ _ _ _).mono ?_; rintro e w' ⟨rfl, rfl⟩))
    have Z := (cellp_new w (.int .i64 0) (.int .i64 0) 27)
    obtain ⟨c0, c1, f0, f1, l0⟩ := id Z
    go_wp2
    exact bodyPost_ret (v := .tuple #[ptV 0 0, .int .i64 2]) (by simp [results, Try.results24, go_sem, *]) rfl ⟨ve3 hh.out.symm, by repeat (first | exact below_alloc1 w _ | refine Below.setCell ?_ (by simp) _)⟩
  · have hh := Lib.hid (show velo t s = (qnear (s * sn t) 1073741824, qnear (s * cn t) 1073741824, 0) by simp [velo, h1])
    have ⟨s0, s1⟩ := inb_of h1
    have ⟨n0, n1⟩ := sn_b t
    have ⟨k0, k1⟩ := cn_b t
    have ⟨p0, p1⟩ := spb n0 n1 s0 s1
    have ⟨p2, p3⟩ := spb k0 k1 s0 s1
    go_enter Try.func24, Try.ntmps24
    go_wp2_with (first | (go_at_call 29; refine (ifrom_any _ _ _ _).mono ?_; rintro e w' ⟨rfl, rfl⟩) | (go_at_call 37; refine (sin_any _ _).mono ?_; rintro e w' ⟨rfl, rfl⟩))
    refine (round_any _ _ _ (by omega) (by omega) (by omega) (by omega)).mono ?_
    rintro e w1 ⟨rfl, hd⟩
    have HD := Lib.hid hd
    clear hd
    go_wp2_with (first | (go_at_call 38; refine (cos_any _ _).mono ?_; rintro e w' ⟨rfl, rfl⟩))
    refine (round_any _ _ _ (by omega) (by omega) (by omega) (by omega)).mono ?_
    rintro e w2 ⟨rfl, hd2⟩
    have Z := (cellp_new w (.int .i64 0) (.int .i64 0) 27).next ((HD.out.trans hd2).below _)
    have B := (below_alloc1 w (.cells #[.int .i64 0, .int .i64 0] 27)).trans ((HD.out.trans hd2).below _)
    clear hd2
    obtain ⟨c0, c1, f0, f1, l0⟩ := id Z
    go_wp2
    exact bodyPost_ret (v := .tuple #[ptV (qnear (s * sn t) 1073741824) (qnear (s * cn t) 1073741824), .int .i64 0]) (by simp [results, Try.results24, go_sem, *]) rfl ⟨ve3 hh.out.symm, (B.setCell (p := ⟨w.heap.size, 0, none⟩) (Nat.le_refl _) _).setCell (p := ⟨w.heap.size, 1, none⟩) (Nat.le_refl _) _⟩
theorem ex_coast : coast 0 0 10 20 300 (-400) 2 5 = (1500, -2000, 20, 30, 0) := by decide +kernel
theorem ex_mg : mg 0 0 10 10 15 0 10 30 = (7, 0, 3, 10, 0) := by decide +kernel
theorem ex_mg2 : mg 0 0 10 10 21 0 10 30 = (0, 0, 0, 0, 11) := by decide +kernel
theorem ex_rch : rch 0 0 10 20 3 30 = (3, 0) := by decide +kernel
theorem ex_velo : velo 10800000 500 = (250, 433, 0) := by decide +kernel
set_option maxHeartbeats 1600000 in
theorem awake_any (w : World) : Calls Try.prog 11 #[] w fun e w' => e = .returned (.bool true) ∧ Below w.heap.size w w' := by
  go_enter Try.func11, Try.ntmps11
  go_wp2_with fail
  refine (icoast_any _ _ _ _ _ _ _ _ _).mono ?_
  rintro e w1 ⟨rfl, hb1⟩
  rw [ex_coast]
  go_wp2_with fail
  refine (imerge_any _ _ _ _ _ _ _ _ _).mono ?_
  rintro e w2 ⟨rfl, hb2⟩
  rw [ex_mg]
  have B := thn (alc hb1 _) hb2
  have TA := (cell4_new w1 _ _ _ _ _).next hb2
  clear hb1 hb2
  go_wp2_with fail
  refine (imerge_any _ _ _ _ _ _ _ _ _).mono ?_
  rintro e w3 ⟨rfl, hb3⟩
  rw [ex_mg2]
  replace B := thn (alc B _) hb3
  have TB := (cell4_new w2 _ _ _ _ _).next hb3
  replace TA := (TA.alc _).next hb3
  clear hb3
  go_wp2_with fail
  refine (ireach_any _ _ _ _ _ _ _).mono ?_
  rintro e w4 ⟨rfl, hb4⟩
  rw [ex_rch]
  replace B := thn (alc B _) hb4
  replace TB := (TB.alc _).next hb4
  replace TA := (TA.alc _).next hb4
  clear hb4
  go_wp2_with fail
  refine (ivelo_any _ _ _).mono ?_
  rintro e w5 ⟨rfl, hb5⟩
  rw [ex_velo]
  replace B := thn B hb5
  replace TB := TB.next hb5
  replace TA := TA.next hb5
  clear hb5
  have B6 := alc B (.cells #[.int .i64 250, .int .i64 433] 27)
  obtain ⟨c0, c1, c2, c3, f0, f1, f2, f3, l0⟩ := id TA
  obtain ⟨d0, d1, d2, d3, g0, g1, g2, g3, l1⟩ := id TB
  go_wp2
  go_ret
  exact ⟨rfl, B6⟩
end Go.Proofs.Ytfeoladkpgojpaa
