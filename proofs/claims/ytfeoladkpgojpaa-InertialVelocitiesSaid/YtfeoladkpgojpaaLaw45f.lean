/- The laws of chapter 45: velocities are the specified ones, and have nearly the speed and the track. -/
import Derived.Test.YtfeoladkpgojpaaLaw45e
import Derived.Test.YtfeoladkpgojpaaQuot3
import Derived.Test.YtfeoladkpgojpaaVelP
import Derived.Test.YtfeoladkpgojpaaTrigY
import Derived.Test.YtfeoladkpgojpaaTrigZ
namespace Go.Proofs.Ytfeoladkpgojpaa
open Go.RowKit Go.Joins Fdk
set_option linter.unusedVariables false
set_option maxHeartbeats 1600000 in
theorem rvelo_any (t s : Int) (w : World) :
    Calls Try.prog 25 #[.int .i64 t, .int .i64 s] w fun e w' => e = Ve3 (velo t s) ∧ Below w.heap.size w w' := by
  cases h1 : inb s 0 2000
  · have hh := Lib.hid (show velo t s = (0, 0, 2) by simp [velo, h1])
    go_enter Try.func25, Try.ntmps25
    go_wp2_with (first | (go_at_call 30; refine (rwithin_any _ _ _ _).mono ?_; rintro e w' ⟨rfl, rfl⟩))
    have Z := (cellp_new w (.int .i64 0) (.int .i64 0) 27)
    obtain ⟨c0, c1, f0, f1, l0⟩ := id Z
    go_wp2
    exact bodyPost_ret (v := .tuple #[ptV 0 0, .int .i64 2]) (by simp [results, Try.results25, go_sem, *]) rfl ⟨ve3 hh.out.symm, by repeat (first | exact below_alloc1 w _ | refine Below.setCell ?_ (by simp) _)⟩
  · have hh := Lib.hid (show velo t s = (qnear (s * sn t) 1073741824, qnear (s * cn t) 1073741824, 0) by simp [velo, h1])
    have ⟨s0, s1⟩ := inb_of h1
    have ⟨n0, n1⟩ := sn_b t
    have ⟨k0, k1⟩ := cn_b t
    have ⟨p0, p1⟩ := spb n0 n1 s0 s1
    have ⟨p2, p3⟩ := spb k0 k1 s0 s1
    go_enter Try.func25, Try.ntmps25
    go_wp2_with (first | (go_at_call 30; refine (rwithin_any _ _ _ _).mono ?_; rintro e w' ⟨rfl, rfl⟩) | (go_at_call 40; refine (rsin_any _ _).mono ?_; rintro e w' ⟨rfl, rfl⟩))
    refine (rround_any _ _ _ (by omega) (by omega) (by omega) (by omega)).mono ?_
    rintro e w' ⟨rfl, rfl⟩
    go_wp2_with (first | (go_at_call 41; refine (rcos_any _ _).mono ?_; rintro e w' ⟨rfl, rfl⟩))
    refine (rround_any _ _ _ (by omega) (by omega) (by omega) (by omega)).mono ?_
    rintro e w' ⟨rfl, rfl⟩
    have Z := (cellp_new w (.int .i64 0) (.int .i64 0) 27)
    have B := (below_alloc1 w (.cells #[.int .i64 0, .int .i64 0] 27))
    generalize w.alloc (.cells #[.int .i64 0, .int .i64 0] 27) = w1 at Z B ⊢
    obtain ⟨c0, c1, f0, f1, l0⟩ := id Z
    go_wp2
    exact bodyPost_ret (v := .tuple #[ptV (qnear (s * sn t) 1073741824) (qnear (s * cn t) 1073741824), .int .i64 0]) (by simp [results, Try.results25, go_sem, *]) rfl ⟨ve3 hh.out.symm, (B.setCell (p := ⟨w.heap.size, 0, none⟩) (Nat.le_refl _) _).setCell (p := ⟨w.heap.size, 1, none⟩) (Nat.le_refl _) _⟩
theorem qnear_rd (s v : Int) : Rd (qnear (s * v) 1073741824) s v := by
  unfold Rd qnear
  generalize s * v = P
  omega
theorem velo_b {s v : Int} (h0 : 0 ≤ s) (h1 : s ≤ 2000) (v0 : -1073741824 ≤ v) (v1 : v ≤ 1073741824) : -2001 ≤ qnear (s * v) 1073741824 ∧ qnear (s * v) 1073741824 ≤ 2001 := by
  have ⟨p0, p1⟩ := spb v0 v1 h0 h1
  unfold qnear
  generalize s * v = P at *
  omega
def VelOk (t s E N : Int) : Prop := (isq (E * E + N * N) - s ≤ 1 ∧ s - isq (E * E + N * N) ≤ 1 ∧ 0 ≤ isq (E * E + N * N) ∧ isq (E * E + N * N) ≤ 10000) ∧ -360000 ≤ adiff t (at2 E N) ∧ adiff t (at2 E N) ≤ 360000
theorem velo_cases (t s : Int) : (Hid (velo t s = (0, 0, 2))) ∨ (∃ E N, (0 ≤ s ∧ s ≤ 2000) ∧ (-2001 ≤ E ∧ E ≤ 2001) ∧ (-2001 ≤ N ∧ N ≤ 2001) ∧ Hid (velo t s = (E, N, 0)) ∧ (s < 100 ∨ (100 ≤ s ∧ (¬ (E = 0 ∧ N = 0)) ∧ VelOk t s E N))) := by
  cases h1 : inb s 0 2000
  · exact .inl (Lib.hid (by simp [velo, h1]))
  · have ⟨s0, s1⟩ := inb_of h1
    have ⟨n0, n1⟩ := sn_b t
    have ⟨k0, k1⟩ := cn_b t
    refine .inr ⟨_, _, ⟨s0, s1⟩, velo_b s0 s1 n0 n1, velo_b s0 s1 k0 k1, Lib.hid (by simp only [velo, h1, if_true]), ?_⟩
    by_cases hs : s < 100
    · exact .inl hs
    · have rE := qnear_rd s (sn t)
      have rN := qnear_rd s (cn t)
      have bE := velo_b s0 s1 n0 n1
      have bN := velo_b s0 s1 k0 k1
      generalize qnear (s * sn t) 1073741824 = E at *
      generalize qnear (s * cn t) 1073741824 = N at *
      have l := len_near (by omega) s1 rE rN
      have l0 : 0 < (s - 1) * (s - 1) := Int.mul_pos (by omega) (by omega)
      have l1 : (s + 1) * (s + 1) ≤ 2001 * 2001 := Int.mul_le_mul (by omega) (by omega) (by omega) (by omega)
      have hz : ¬ (E = 0 ∧ N = 0) := by
        rintro ⟨rfl, rfl⟩
        have := l.1
        omega
      have hh := hyp_near (by omega) s1 rE rN (by omega)
      have i0 := isq_ok (n := E * E + N * N) (by omega) (by omega)
      obtain ⟨k, q0, q1, q2⟩ := dir_near (by omega) s1 rE rN hz
      refine .inr ⟨by omega, hz, ⟨hh.1, hh.2, i0.1, ?_⟩, ?_⟩
      · omega
      · unfold adiff; split <;> omega
set_option maxHeartbeats 1600000 in
theorem velo_a (t : Int) (s : Int) (w : World) (HC : Hid (velo t s = (0, 0, 2))) :
    Calls Try.prog 10 #[.int .i64 t, .int .i64 s] w fun e w' => e = .returned (.bool true) ∧ Below w.heap.size w w' := by
  go_enter Try.func10, Try.ntmps10
  go_wp2_with fail
  refine (awake_any _).mono ?_
  rintro e w1 ⟨rfl, hb1⟩
  go_wp2_with fail
  refine (ivelo_any _ _ _).mono ?_
  rintro e w2 ⟨rfl, hb2⟩
  rw [HC.out]
  have B := thn hb1 hb2
  go_wp2_with fail
  refine (rvelo_any _ _ _).mono ?_
  rintro e w3 ⟨rfl, hb3⟩
  rw [HC.out]
  replace B := thn (alc B _) hb3
  obtain ⟨c0, c1, f0, f1, l0⟩ := (cellp_new w2 _ _ _).next hb3
  go_wp2
  go_ret
  exact ⟨rfl, alc B _⟩
set_option maxHeartbeats 1600000 in
theorem velo_s (t : Int) (s : Int) (w : World) (E N : Int) (hs : 0 ≤ s ∧ s ≤ 2000) (hE : -2001 ≤ E ∧ E ≤ 2001) (hN : -2001 ≤ N ∧ N ≤ 2001) (HC : Hid (velo t s = (E, N, 0))) (hlt : s < 100) :
    Calls Try.prog 10 #[.int .i64 t, .int .i64 s] w fun e w' => e = .returned (.bool true) ∧ Below w.heap.size w w' := by
  go_enter Try.func10, Try.ntmps10
  go_wp2_with fail
  refine (awake_any _).mono ?_
  rintro e w1 ⟨rfl, hb1⟩
  go_wp2_with fail
  refine (ivelo_any _ _ _).mono ?_
  rintro e w2 ⟨rfl, hb2⟩
  rw [HC.out]
  have B := thn hb1 hb2
  go_wp2_with fail
  refine (rvelo_any _ _ _).mono ?_
  rintro e w3 ⟨rfl, hb3⟩
  rw [HC.out]
  replace B := thn (alc B _) hb3
  obtain ⟨c0, c1, f0, f1, l0⟩ := (cellp_new w2 _ _ _).next hb3
  go_wp2
  go_ret
  exact ⟨rfl, alc B _⟩
theorem sqb {x : Int} (h : -2001 ≤ x ∧ x ≤ 2001) : 0 ≤ x * x ∧ x * x ≤ 4004001 := by
  have h2 := mul_ab (a := x) (e := x) (M := 2001) h.1 h.2 (by omega)
  have h3 : 0 ≤ x * x := by rcases Int.le_total 0 x with k | k; exact Int.mul_nonneg k k; exact Int.mul_nonneg_of_nonpos_of_nonpos k k
  have h4 : iabs x ≤ 2001 := by unfold iabs; split <;> omega
  omega
set_option maxHeartbeats 1600000 in
theorem velo_b2 (t : Int) (s : Int) (w : World) (E N : Int) (hs : 0 ≤ s ∧ s ≤ 2000) (hE : -2001 ≤ E ∧ E ≤ 2001) (hN : -2001 ≤ N ∧ N ≤ 2001) (HC : Hid (velo t s = (E, N, 0))) (hge : 100 ≤ s) (HZ : Hid (¬ (E = 0 ∧ N = 0))) (HV : Hid (VelOk t s E N)) :
    Calls Try.prog 10 #[.int .i64 t, .int .i64 s] w fun e w' => e = .returned (.bool true) ∧ Below w.heap.size w w' := by
  obtain ⟨⟨v0, v1, v2, v3⟩, v4, v5⟩ := HV.out
  have n1 : nr (isq (E * E + N * N)) s 1 = true := by simp [nr, v0, v1]
  have n2 : nr (adiff t (at2 E N)) 0 360000 = true := by simp only [nr, Bool.and_eq_true, decide_eq_true_eq]; omega
  have ⟨sE0, sE1⟩ := sqb hE
  have ⟨sN0, sN1⟩ := sqb hN
  have ⟨k0, k1⟩ := at2_b E N
  go_enter Try.func10, Try.ntmps10
  go_wp2_with fail
  refine (awake_any _).mono ?_
  rintro e w1 ⟨rfl, hb1⟩
  go_wp2_with fail
  refine (ivelo_any _ _ _).mono ?_
  rintro e w2 ⟨rfl, hb2⟩
  rw [HC.out]
  have B := thn hb1 hb2
  go_wp2_with fail
  refine (rvelo_any _ _ _).mono ?_
  rintro e w3 ⟨rfl, hb3⟩
  rw [HC.out]
  replace B := thn (alc B _) hb3
  have TV := (cellp_new w2 (.int .i64 E) (.int .i64 N) 27).next hb3
  obtain ⟨c0, c1, f0, f1, l0⟩ := id TV
  go_wp2_with fail
  refine (hyp_any _ _ _ (by omega) (by omega) (by omega) (by omega)).mono ?_
  rintro e w' ⟨rfl, rfl⟩
  generalize isq (E * E + N * N) = n at *
  replace TV := TV.alc (.cells #[.int .i64 E, .int .i64 N] 27)
  go_wp2_with fail
  refine (at2_any _ _ _ (by omega) (by omega) (by omega) (by omega) HZ.out).mono ?_
  rintro e w4 ⟨rfl, hb4⟩
  replace B := thn (alc B _) hb4
  generalize at2 E N = c at *
  go_wp2_with (first | (go_at_call 28; refine (diff_any _ _ _).mono ?_; rintro e w' ⟨rfl, rfl⟩))
  go_wp2_with (go_at_call 17; refine (near_any _ _ _ _ (by omega) (by omega) (by omega) (by omega)).mono ?_; rintro e w' ⟨rfl, rfl⟩)
  go_ret
  exact ⟨rfl, B⟩
theorem inertialVelocities_walk (t : Int) (_ : -9223372036854775808 ≤ t ∧ t ≤ 9223372036854775807) (s : Int) (_ : -9223372036854775808 ≤ s ∧ s ≤ 9223372036854775807) (w : World) :
    Calls Try.prog 10 #[.int .i64 t, .int .i64 s] w fun e w' => e = .returned (.bool true) ∧ Below w.heap.size w w' := by
  rcases velo_cases t s with HC | ⟨E, N, hs, hE, hN, HC, hlt | ⟨hge, hz, hv⟩⟩
  · exact velo_a t s w HC
  · exact velo_s t s w E N hs hE hN HC hlt
  · exact velo_b2 t s w E N hs hE hN HC hge (Lib.hid hz) (Lib.hid hv)
end Go.Proofs.Ytfeoladkpgojpaa
