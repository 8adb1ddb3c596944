/- Ratio, temperature, sound, true airspeed, Mach number: plain. -/
import Derived.Test.YtfchbgcgdcoplaaTabP
import Derived.Test.YtfchbgcgdcoplaaTrigP4
import Derived.Test.YtfchbgcgdcoplaaQuot2
namespace Go.Proofs.Ytfchbgcgdcoplaa
open Fdk
set_option linter.unusedVariables false
theorem mul_b {a b l u p q : Int} (h0 : l ≤ a) (h1 : a ≤ u) (h2 : p ≤ b) (h3 : b ≤ q) (l0 : 0 ≤ l) (p0 : 0 ≤ p) : l * p ≤ a * b ∧ a * b ≤ u * q :=
  ⟨Int.mul_le_mul h0 h2 p0 (by omega), Int.mul_le_mul h1 h3 (by omega) (by omega)⟩
theorem rat_b {x d : Int} (h0 : -200000 ≤ x) (h1 : x ≤ 6000000) (d0 : -4000 ≤ d) (d1 : d ≤ 4000) : 900000 ≤ rat x d ∧ rat x d ≤ 3500000 := by
  obtain ⟨b0, b1⟩ := rts_b h0 h1
  unfold rat
  have := mul_b b0 b1 (show 53630 ≤ 57630 + d by omega) (show 57630 + d ≤ 61630 by omega) (by omega) (by omega)
  generalize tv (la rts) (lb rts) 14 x * (57630 + d) = M at *
  omega
theorem rat_m {x d : Int} (h0 : -200000 ≤ x) (h1 : x ≤ 6000000) (d0 : -4000 ≤ d) (d1 : d ≤ 4000) : 0 ≤ tv (la rts) (lb rts) 14 x * (57630 + d) ∧ tv (la rts) (lb rts) 14 x * (57630 + d) ≤ 300000000000 := by
  obtain ⟨b0, b1⟩ := rts_b h0 h1
  have := mul_b b0 b1 (show 53630 ≤ 57630 + d by omega) (show 57630 + d ≤ 61630 by omega) (by omega) (by omega)
  generalize tv (la rts) (lb rts) 14 x * (57630 + d) = M at *
  omega
theorem rat_up {x y d : Int} (h : x ≤ y) (d0 : -4000 ≤ d) (d1 : d ≤ 4000) : rat x d ≤ rat y d := by
  unfold rat
  exact Int.ediv_le_ediv (by omega) (Int.mul_le_mul_of_nonneg_right (rts_up h) (by omega))
theorem tem_b {x d : Int} (h0 : -200000 ≤ x) (h1 : x ≤ 6000000) (d0 : -4000 ≤ d) (d1 : d ≤ 4000) : 17000 ≤ tem x d ∧ tem x d ≤ 34000 := by
  obtain ⟨b0, b1⟩ := tmps_b h0 h1
  unfold tem; omega
theorem tem_down {x y d : Int} (h : x ≤ y) : tem y d ≤ tem x d := by
  have := tmps_down h
  unfold tem; omega
def sndv (x d : Int) : Int := isq (388734 * tem x d / 100)
theorem isq_mono {m n : Int} (h0 : 0 ≤ m) (h : m ≤ n) (h1 : n ≤ 9223372036854775807) : isq m ≤ isq n := by
  obtain ⟨a0, a1, a2, a3⟩ := isq_ok h0 (by omega)
  obtain ⟨b0, b1, b2, b3⟩ := isq_ok (n := n) (by omega) h1
  rcases Int.lt_or_le (isq n) (isq m) with g | g
  · exfalso
    have : (isq n + 1) * (isq n + 1) ≤ isq m * isq m := Int.mul_le_mul (by omega) (by omega) (by omega) (by omega)
    omega
  · exact g
theorem sndv_b {x d : Int} (h0 : -200000 ≤ x) (h1 : x ≤ 6000000) (d0 : -4000 ≤ d) (d1 : d ≤ 4000) : 8000 ≤ sndv x d ∧ sndv x d ≤ 12000 := by
  obtain ⟨t0, t1⟩ := tem_b h0 h1 d0 d1
  unfold sndv
  have e0 : isq 64000000 = 8000 := isq_eq (by omega) (by omega) (by omega) (by omega)
  have e1 : isq 144000000 = 12000 := isq_eq (by omega) (by omega) (by omega) (by omega)
  have g0 := isq_mono (m := 64000000) (n := 388734 * tem x d / 100) (by omega) (by omega) (by omega)
  have g1 := isq_mono (m := 388734 * tem x d / 100) (n := 144000000) (by omega) (by omega) (by omega)
  omega
theorem sndv_down {x y d : Int} (h0 : -200000 ≤ x) (h : x ≤ y) (h1 : y ≤ 6000000) (d0 : -4000 ≤ d) (d1 : d ≤ 4000) : sndv y d ≤ sndv x d := by
  obtain ⟨t0, t1⟩ := tem_b h0 (show x ≤ 6000000 by omega) d0 d1
  obtain ⟨u0, u1⟩ := tem_b (show -200000 ≤ y by omega) h1 d0 d1
  have := tem_down (d := d) h
  unfold sndv
  exact isq_mono (by omega) (by omega) (by omega)
def tasv (c x d : Int) : Int := c * rat x d / 1000000
theorem tas_m {c x d : Int} (c0 : 0 ≤ c) (c1 : c ≤ 1000) (h0 : -200000 ≤ x) (h1 : x ≤ 6000000) (d0 : -4000 ≤ d) (d1 : d ≤ 4000) : 0 ≤ c * rat x d ∧ c * rat x d ≤ 3500000000 := by
  obtain ⟨r0, r1⟩ := rat_b h0 h1 d0 d1
  have := mul_b c0 c1 r0 r1 (by omega) (by omega)
  generalize c * rat x d = M at *
  omega
theorem tas_b {c x d : Int} (c0 : 0 ≤ c) (c1 : c ≤ 1000) (h0 : -200000 ≤ x) (h1 : x ≤ 6000000) (d0 : -4000 ≤ d) (d1 : d ≤ 4000) : 0 ≤ tasv c x d ∧ tasv c x d ≤ 3500 := by
  have := tas_m c0 c1 h0 h1 d0 d1
  unfold tasv
  generalize c * rat x d = M at *
  omega
theorem tas_up {c x y d : Int} (c0 : 0 ≤ c) (h : x ≤ y) (d0 : -4000 ≤ d) (d1 : d ≤ 4000) : tasv c x d ≤ tasv c y d := by
  unfold tasv
  exact Int.ediv_le_ediv (by omega) (Int.mul_le_mul_of_nonneg_left (rat_up h d0 d1) c0)
/-- a calibrated airspeed back. -/
def casv (t x d : Int) : Int := qup (t * 1000000) (rat x d)
theorem qup_b {p c : Int} (hc : 1 ≤ c) : p ≤ qup p c * c ∧ (∀ k, p ≤ k * c → qup p c ≤ k) := by
  unfold qup
  have h1 := Int.emod_nonneg (-p) (show c ≠ 0 by omega)
  have h2 := Int.emod_lt_of_pos (-p) (show 0 < c by omega)
  have h3 := Int.mul_ediv_add_emod (-p) c
  refine ⟨?_, fun k hk => ?_⟩
  · rw [Int.neg_mul, Int.mul_comm]; omega
  · have : -k * c ≤ -p := by rw [Int.neg_mul]; omega
    have := (Int.le_ediv_iff_mul_le (show 0 < c by omega)).2 this
    omega
theorem cas_back {c x d : Int} (c0 : 0 ≤ c) (c1 : c ≤ 1000) (h0 : -200000 ≤ x) (h1 : x ≤ 6000000) (d0 : -4000 ≤ d) (d1 : d ≤ 4000) :
    0 ≤ casv (tasv c x d) x d ∧ casv (tasv c x d) x d ≤ c ∧ tasv (casv (tasv c x d) x d) x d = tasv c x d := by
  obtain ⟨r0, r1⟩ := rat_b h0 h1 d0 d1
  obtain ⟨t0, t1⟩ := tas_b c0 c1 h0 h1 d0 d1
  obtain ⟨q0, q1⟩ := qup_b (p := tasv c x d * 1000000) (c := rat x d) (by omega)
  have k1 : casv (tasv c x d) x d ≤ c := q1 c (by
    have : tasv c x d * 1000000 ≤ c * rat x d := by unfold tasv; exact Int.ediv_mul_le _ (by omega)
    exact this)
  have k0 : 0 ≤ casv (tasv c x d) x d := by
    rcases Int.lt_or_le (casv (tasv c x d) x d) 0 with g | g
    · exfalso
      have := Int.mul_neg_of_neg_of_pos g (show 0 < rat x d by omega)
      unfold casv at this; omega
    · exact g
  refine ⟨k0, k1, ?_⟩
  have g1 : tasv (casv (tasv c x d) x d) x d ≤ tasv c x d := by
    show casv (tasv c x d) x d * rat x d / 1000000 ≤ c * rat x d / 1000000
    exact Int.ediv_le_ediv (by omega) (Int.mul_le_mul_of_nonneg_right k1 (by omega))
  have g2 : tasv c x d ≤ tasv (casv (tasv c x d) x d) x d := by
    show _ ≤ casv (tasv c x d) x d * rat x d / 1000000
    exact (Int.le_ediv_iff_mul_le (by omega)).2 q0
  omega
def machv (t x d : Int) : Int := 16000 * t / sndv x d
theorem mach_b {t x d : Int} (t0 : 0 ≤ t) (t1 : t ≤ 4000) (h0 : -200000 ≤ x) (h1 : x ≤ 6000000) (d0 : -4000 ≤ d) (d1 : d ≤ 4000) : 0 ≤ machv t x d ∧ machv t x d ≤ 64000000 := by
  obtain ⟨s0, s1⟩ := sndv_b h0 h1 d0 d1
  unfold machv
  have a := Int.ediv_nonneg (show 0 ≤ 16000 * t by omega) (show 0 ≤ sndv x d by omega)
  have b := Int.ediv_le_self (sndv x d) (show 0 ≤ 16000 * t by omega)
  omega
/-- of a Mach number. -/
def ofmv (m x d : Int) : Int := qup (m * sndv x d) 16000
theorem ofm_le {t x d : Int} (t0 : 0 ≤ t) (h0 : -200000 ≤ x) (h1 : x ≤ 6000000) (d0 : -4000 ≤ d) (d1 : d ≤ 4000) : ofmv (machv t x d) x d ≤ t := by
  obtain ⟨s0, s1⟩ := sndv_b h0 h1 d0 d1
  refine (qup_b (by omega)).2 t ?_
  have : machv t x d * sndv x d ≤ 16000 * t := by unfold machv; exact Int.ediv_mul_le _ (by omega)
  omega
theorem mach_up {c x y d : Int} (c0 : 0 ≤ c) (c1 : c ≤ 1000) (h0 : -200000 ≤ x) (h : x ≤ y) (h1 : y ≤ 6000000) (d0 : -4000 ≤ d) (d1 : d ≤ 4000) : machv (tasv c x d) x d ≤ machv (tasv c y d) y d := by
  obtain ⟨s0, s1⟩ := sndv_b h0 (show x ≤ 6000000 by omega) d0 d1
  obtain ⟨u0, u1⟩ := sndv_b (show -200000 ≤ y by omega) h1 d0 d1
  have hs := sndv_down h0 h h1 d0 d1
  have ht := tas_up c0 h d0 d1
  obtain ⟨t0, t1⟩ := tas_b c0 c1 h0 (show x ≤ 6000000 by omega) d0 d1
  have hm : 0 ≤ machv (tasv c x d) x d := (mach_b t0 (by omega) h0 (by omega) d0 d1).1
  have e1 : machv (tasv c x d) x d * sndv x d ≤ 16000 * tasv c x d := by unfold machv; exact Int.ediv_mul_le _ (by omega)
  have e2 : machv (tasv c x d) x d * sndv y d ≤ machv (tasv c x d) x d * sndv x d := Int.mul_le_mul_of_nonneg_left hs hm
  show _ ≤ 16000 * tasv c y d / sndv y d
  exact (Int.le_ediv_iff_mul_le (by omega)).2 (by omega)
end Go.Proofs.Ytfchbgcgdcoplaa
