/- The triangle inequality of distances, over the exact rotations. -/
import Derived.Test.YtmlacekgmdlfjaaRotS
namespace Go.Proofs.Ytmlacekgmdlfjaa
open Go.RowKit Go.Joins Fdk
set_option linter.unusedVariables false
/-- the greatest fraction with a denominator whose square is at most v. -/
theorem sqrt_ex (K : Rat) (hK : 0 < K) (v : Rat) (v0 : 0 ≤ v) (n : Nat) (hn : v < (n : Rat) / K * ((n : Rat) / K)) : ∃ k : Nat, k < n ∧ (k : Rat) / K * ((k : Rat) / K) ≤ v ∧ v < ((k : Rat) + 1) / K * (((k : Rat) + 1) / K) := by
  induction n with
  | zero => exact absurd hn (by rw [show ((0 : Nat) : Rat) = 0 from rfl]; grind)
  | succ n ih =>
    by_cases h : v < (n : Rat) / K * ((n : Rat) / K)
    · obtain ⟨k, h1, h2⟩ := ih h
      exact ⟨k, by omega, h2⟩
    · refine ⟨n, by omega, by grind, ?_⟩
      have e : ((n + 1 : Nat) : Rat) = (n : Rat) + 1 := by rw [Rat.natCast_add]; rfl
      rw [← e]; exact hn
theorem root (v : Rat) (v0 : 0 ≤ v) (v1 : v ≤ 2) : ∃ s : Rat, 0 ≤ s ∧ s ≤ 2 ∧ s * s ≤ v ∧ v ≤ s * s + 1/1000000000000000000000000000000 := by
  obtain ⟨k, h1, h2, h3⟩ := sqrt_ex 10000000000000000000000000000000 (by grind) v v0 20000000000000000000000000000000 (by
    have : (((20000000000000000000000000000000 : Nat) : Rat) / 10000000000000000000000000000000 * (((20000000000000000000000000000000 : Nat) : Rat) / 10000000000000000000000000000000)) = 4 := by decide +kernel
    rw [this]; grind)
  have k0 : (0 : Rat) ≤ k := Rat.natCast_nonneg
  have kb : (k : Rat) ≤ 20000000000000000000000000000000 := by
    have h : (k : Rat) ≤ ((20000000000000000000000000000000 : Nat) : Rat) := Rat.natCast_le_natCast.2 (by omega)
    have e : ((20000000000000000000000000000000 : Nat) : Rat) = 20000000000000000000000000000000 := by decide +kernel
    rwa [e] at h
  refine ⟨(k : Rat) / 10000000000000000000000000000000, by grind, by grind, h2, ?_⟩
  generalize (k : Rat) = c at *
  grind
/-- on the circle: a direction that lies below an angle has the greater cosine. -/
theorem cos_lo {x y C S m ν : Rat} (hC : C * C + S * S = 1) (h1 : x * x + y * y ≤ 1) (h0 : 1 - ν ≤ x * x + y * y) (y0 : 0 ≤ y) (m0 : 0 < m) (S0 : 0 < S) (hm : m ≤ x * S - y * C) (hν : ν < m * S) : C ≤ x := by
  have c1 : C ≤ 1 := le_of_sq (by grind) (by have := rsq S; grind)
  have eq : (x * C + y * S) * (x * C + y * S) + (x * S - y * C) * (x * S - y * C) = x * x + y * y := by
    have : (x * C + y * S) * (x * C + y * S) + (x * S - y * C) * (x * S - y * C) = (x * x + y * y) * (C * C + S * S) := by grind
    rw [this, hC]; grind
  have ex : x = (x * C + y * S) * C + (x * S - y * C) * S := by
    have : (x * C + y * S) * C + (x * S - y * C) * S = x * (C * C + S * S) := by grind
    rw [this, hC]; grind
  have ey : y = (x * C + y * S) * S - (x * S - y * C) * C := by
    have : (x * C + y * S) * S - (x * S - y * C) * C = y * (C * C + S * S) := by grind
    rw [this, hC]; grind
  generalize hp : x * C + y * S = p at *
  generalize hq : x * S - y * C = q at *
  have p1 : p ≤ 1 := le_of_sq (by grind) (by have := rsq q; grind)
  have qS : 0 ≤ q * S := Rat.mul_nonneg (by grind) (Rat.le_of_lt S0)
  rcases (Rat.le_total : C ≤ 0 ∨ 0 ≤ C) with hc | hc
  · have := Rat.mul_nonneg (a := 1 - p) (b := -C) (by grind) (by grind)
    grind
  · refine Classical.byContradiction fun hn => ?_
    have k1 : q * C ≤ p * S := by grind
    have k2 : 0 ≤ q * C := Rat.mul_nonneg (by grind) hc
    have k3 : 0 ≤ p := by
      refine Classical.byContradiction fun hp0 => ?_
      have := Rat.mul_pos (a := -p) (b := S) (by grind) S0
      grind
    have k4 : q * S < (1 - p) * C := by grind
    have k5 := Rat.mul_nonneg (a := 1 + p) (b := (1 - p) * C - q * S) (by grind) (by grind)
    have k6 : (1 + p) * ((1 - p) * C - q * S) = (1 - p * p) * C - (1 + p) * (q * S) := by grind
    have k7 := Rat.mul_nonneg (a := q * q + ν - (1 - p * p)) (b := C) (by grind) hc
    have k8 := Rat.mul_nonneg (a := q) (b := p * S - q * C) (by grind) (by grind)
    have k9 : q * S ≤ ν * C := by grind
    have k10 := Rat.mul_nonneg (a := q - m) (b := S) (by grind) (Rat.le_of_lt S0)
    have ν0 : 0 ≤ ν := by grind
    have k11 := Rat.mul_nonneg (a := ν) (b := 1 - C) ν0 (by grind)
    grind
/-- the triangle inequality, in cosines. -/
theorem tri_cos {p0 p1 p2 q0 q1 q2 r0 r1 r2 C1 S1 C2 S2 : Rat} (hp : p0 * p0 + p1 * p1 + p2 * p2 ≤ 1) (hq : q0 * q0 + q1 * q1 + q2 * q2 ≤ 1) (hr : r0 * r0 + r1 * r1 + r2 * r2 ≤ 1)
    (h1 : C1 * C1 + S1 * S1 = 1) (h2 : C2 * C2 + S2 * S2 = 1) (s1 : 0 < S1) (s2 : 0 < S2) (s3 : 0 ≤ S1 * C2 + C1 * S2) (hu : C1 ≤ p0 * q0 + p1 * q1 + p2 * q2) (hv : C2 ≤ q0 * r0 + q1 * r1 + q2 * r2) :
    C1 * C2 - S1 * S2 ≤ p0 * r0 + p1 * r1 + p2 * r2 := by
  generalize hT : S1 * C2 + C1 * S2 = T at *
  have n0 := rsq (S2 * p0 + S1 * r0 - T * q0)
  have n1 := rsq (S2 * p1 + S1 * r1 - T * q1)
  have n2 := rsq (S2 * p2 + S1 * r2 - T * q2)
  have e : (S2 * p0 + S1 * r0 - T * q0) * (S2 * p0 + S1 * r0 - T * q0) + (S2 * p1 + S1 * r1 - T * q1) * (S2 * p1 + S1 * r1 - T * q1) + (S2 * p2 + S1 * r2 - T * q2) * (S2 * p2 + S1 * r2 - T * q2)
      = S2 * S2 * (p0 * p0 + p1 * p1 + p2 * p2) + S1 * S1 * (r0 * r0 + r1 * r1 + r2 * r2) + T * T * (q0 * q0 + q1 * q1 + q2 * q2) + 2 * (S1 * S2) * (p0 * r0 + p1 * r1 + p2 * r2) - 2 * (S2 * T) * (p0 * q0 + p1 * q1 + p2 * q2) - 2 * (S1 * T) * (q0 * r0 + q1 * r1 + q2 * r2) := by grind
  generalize p0 * p0 + p1 * p1 + p2 * p2 = PP at *
  generalize q0 * q0 + q1 * q1 + q2 * q2 = QQ at *
  generalize r0 * r0 + r1 * r1 + r2 * r2 = RR at *
  generalize p0 * q0 + p1 * q1 + p2 * q2 = u at *
  generalize q0 * r0 + q1 * r1 + q2 * r2 = v at *
  generalize p0 * r0 + p1 * r1 + p2 * r2 = w at *
  have m1 := Rat.mul_nonneg (rsq S2) (b := 1 - PP) (by grind)
  have m2 := Rat.mul_nonneg (rsq S1) (b := 1 - RR) (by grind)
  have m3 := Rat.mul_nonneg (rsq T) (b := 1 - QQ) (by grind)
  have m4 := Rat.mul_nonneg (a := S2 * T) (b := u - C1) (Rat.mul_nonneg (Rat.le_of_lt s2) s3) (by grind)
  have m5 := Rat.mul_nonneg (a := S1 * T) (b := v - C2) (Rat.mul_nonneg (Rat.le_of_lt s1) s3) (by grind)
  have id : S2 * S2 + S1 * S1 + T * T + 2 * (S1 * S2) * (C1 * C2 - S1 * S2) - 2 * (S2 * T) * C1 - 2 * (S1 * T) * C2 = 0 := by
    have : S2 * S2 + S1 * S1 + T * T + 2 * (S1 * S2) * (C1 * C2 - S1 * S2) - 2 * (S2 * T) * C1 - 2 * (S1 * T) * C2 = S1 * S1 * (1 - (C2 * C2 + S2 * S2)) + S2 * S2 * (1 - (C1 * C1 + S1 * S1)) := by rw [← hT]; grind
    rw [this, h1, h2]; grind
  have k : 0 ≤ 2 * (S1 * S2) * (w - (C1 * C2 - S1 * S2)) := by grind
  refine Classical.byContradiction fun hn => ?_
  have := Rat.mul_pos (a := S1 * S2) (b := (C1 * C2 - S1 * S2) - w) (Rat.mul_pos s1 s2) (by grind)
  grind
theorem SS_pos {s : Int} (h0 : 2 ≤ s) (h1 : s ≤ 64799998) : 100 ≤ 1073741824 * SS s := by
  obtain ⟨⟨a1, a2⟩, _⟩ := nr_all (a := s) (by omega) (by omega)
  have h : 104 ≤ sn s := by
    have e : sn 2 = 104 := by decide +kernel
    by_cases h : s ≤ 32400000
    · have := sn_mono (a := 2) (b := s) (by omega) (by omega) (by omega)
      omega
    · have := sn_mono (a := 2) (b := 64800000 - s) (by omega) (by omega) (by omega)
      rw [sn_mirror] at this
      omega
  have := rle2 h
  have z : ((104 : Int) : Rat) = 104 := rfl
  rw [z] at this
  grind
theorem CC_step {s : Int} (h0 : 2 ≤ s) (h1 : s + 1 ≤ 64799998) : CC (s + 1) ≤ CC s - 1/1000000000000000 := by
  have p1 := SS_pos h0 (by omega)
  have p2 := SS_pos (s := s + 1) (by omega) h1
  obtain ⟨e1, e2⟩ := CS_add s 1
  have u := CS_unit 1
  have c1 := cu_lo
  have s1 := su_k
  rw [CC_one, SS_one] at *
  have f1 : CC s = CC (s + 1) * cu + SS (s + 1) * su := by
    rw [e1, e2]
    have : (CC s * cu - SS s * su) * cu + (SS s * cu + CC s * su) * su = CC s * (cu * cu + su * su) := by grind
    rw [this, u]; grind
  generalize CC (s + 1) = C' at *
  generalize SS (s + 1) = S' at *
  generalize CC s = C at *
  generalize SS s = S at *
  have k1 := Rat.mul_nonneg (a := S - 100/1073741824) (b := su) (by grind) (by grind)
  have k2 := Rat.mul_nonneg (a := S' - 100/1073741824) (b := su) (by grind) (by grind)
  rcases (Rat.le_total : C ≤ 0 ∨ 0 ≤ C) with hc | hc
  · rcases (Rat.le_total : C' ≤ 0 ∨ 0 ≤ C') with hd | hd
    · have := Rat.mul_nonneg (a := -C') (b := 1 - cu) (by grind) (by grind)
      grind
    · have := Rat.mul_nonneg (a := -C) (b := cu) (by grind) (by grind)
      grind
  · have := Rat.mul_nonneg (a := C) (b := 1 - cu) (by grind) (by grind)
    grind
theorem CC_dec (s : Int) (h0 : 2 ≤ s) (n : Nat) (h1 : s + 1 + n ≤ 64799998) : CC (s + 1 + n) < CC s := by
  induction n with
  | zero =>
    have := CC_step h0 (by omega)
    have e : s + 1 + ((0 : Nat) : Int) = s + 1 := by omega
    rw [e]; grind
  | succ n ih =>
    have a := ih (by omega)
    have b := CC_step (s := s + 1 + n) (by omega) (by omega)
    have e : s + 1 + ((n + 1 : Nat) : Int) = s + 1 + n + 1 := by omega
    rw [e]; grind
end Go.Proofs.Ytmlacekgmdlfjaa
