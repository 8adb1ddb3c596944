/- Plain facts: the law's own series of sine and cosine (8). No program in sight. -/
import Derived.Test.YtpgpdglmgpjhlaaTrigP5
namespace Fdk
set_option linter.unusedVariables false

theorem hdiff {x z p q ε δ : Rat} (x0 : 0 ≤ x) (x1 : x ≤ 617/1000) (q0 : 0 ≤ q) (q1 : q ≤ 1) (d1 : -δ ≤ x - z) (d2 : x - z ≤ δ) (e1 : -ε ≤ p - q) (e2 : p - q ≤ ε) :
    -(δ + 617/1000 * ε) ≤ x * p - z * q ∧ x * p - z * q ≤ δ + 617/1000 * ε := by
  have ⟨a1, a2⟩ := xd_b x0 x1 e1 e2
  have k1 : 0 ≤ (δ - (x - z)) * q := Rat.mul_nonneg (by grind) q0
  have k2 : 0 ≤ (δ + (x - z)) * q := Rat.mul_nonneg (by grind) q0
  have k3 : 0 ≤ δ * (1 - q) := Rat.mul_nonneg (by grind) (by grind)
  constructor <;> grind
/-- a level of the long series lies from 0 to 1, and near 1. -/
theorem lev {z q : Rat} (N : Rat) (hN : 2 ≤ N) (h0 : 0 ≤ z) (h1 : z ≤ 617/1000) (q0 : 0 ≤ q) (q1 : q ≤ 1) : 0 ≤ 1 - z * q / N ∧ 1 - z * q / N ≤ 1 := by
  have ⟨a, b⟩ := xp_b h0 h1 q0 q1
  generalize z * q = Q at *
  have hv : N * (Q / N) = Q := by
    have : N ≠ 0 := by grind
    grind
  generalize Q / N = y at *
  constructor
  · by_cases h : y ≤ 1
    · grind
    · have k : 0 ≤ (N - 2) * (y - 1) := Rat.mul_nonneg (by grind) (by grind)
      have e : (N - 2) * (y - 1) = N * y - N - 2 * y + 2 := by grind
      rw [e] at k; grind
  · by_cases h : 0 ≤ y
    · grind
    · have k : 0 ≤ (N - 2) * (-y) := Rat.mul_nonneg (by grind) (by grind)
      have e : (N - 2) * (-y) = -(N * y) + 2 * y := by grind
      rw [e] at k; grind
/-- the long series of the sine and of the cosine, from the inside. -/
def G9 (z : Rat) : Rat := 1 - z * 1 / 342
def G8 (z : Rat) : Rat := 1 - z * G9 z / 272
def G7 (z : Rat) : Rat := 1 - z * G8 z / 210
def G6 (z : Rat) : Rat := 1 - z * G7 z / 156
def G5 (z : Rat) : Rat := 1 - z * G6 z / 110
def G4 (z : Rat) : Rat := 1 - z * G5 z / 72
def G3 (z : Rat) : Rat := 1 - z * G4 z / 42
def G2 (z : Rat) : Rat := 1 - z * G3 z / 20
def G1 (z : Rat) : Rat := 1 - z * G2 z / 6
def H9 (z : Rat) : Rat := 1 - z * 1 / 306
def H8 (z : Rat) : Rat := 1 - z * H9 z / 240
def H7 (z : Rat) : Rat := 1 - z * H8 z / 182
def H6 (z : Rat) : Rat := 1 - z * H7 z / 132
def H5 (z : Rat) : Rat := 1 - z * H6 z / 90
def H4 (z : Rat) : Rat := 1 - z * H5 z / 56
def H3 (z : Rat) : Rat := 1 - z * H4 z / 30
def H2 (z : Rat) : Rat := 1 - z * H3 z / 12
def H1 (z : Rat) : Rat := 1 - z * H2 z / 2
theorem Ps_G {x z δ : Rat} (x0 : 0 ≤ x) (x1 : x ≤ 617/1000) (z0 : 0 ≤ z) (z1 : z ≤ 617/1000) (hδ : δ ≤ 7/10000000000) (d1 : -δ ≤ x - z) (d2 : x - z ≤ δ) :
    -(14/100000000000) ≤ Ps x - G1 z ∧ Ps x - G1 z ≤ 14/100000000000 ∧ 0 ≤ G1 z ∧ G1 z ≤ 1 := by
  have g9 := lev (q := 1) 342 (by grind) z0 z1 (by grind) (by grind)
  have g8 := lev 272 (by grind) z0 z1 g9.1 g9.2
  have g7 := lev 210 (by grind) z0 z1 g8.1 g8.2
  have g6 := lev 156 (by grind) z0 z1 g7.1 g7.2
  have g5 := lev 110 (by grind) z0 z1 g6.1 g6.2
  have g4 := lev 72 (by grind) z0 z1 g5.1 g5.2
  have g3 := lev 42 (by grind) z0 z1 g4.1 g4.2
  have g2 := lev 20 (by grind) z0 z1 g3.1 g3.2
  have g1 := lev 6 (by grind) z0 z1 g2.1 g2.2
  have b7 := xp_b z0 z1 g7.1 g7.2
  change 0 ≤ G1 z ∧ G1 z ≤ 1 at g1
  have c6 : (0:Rat) ≤ 1 - (1 - z * G7 z / 156) ∧ 1 - (1 - z * G7 z / 156) ≤ 4/1000 := by
    change 0 ≤ z * G7 z ∧ z * G7 z ≤ 617/1000 at b7
    generalize z * G7 z = Q at *
    constructor <;> grind
  have c5 := hdiff (p := 1) (q := G6 z) (ε := 4/1000) x0 x1 g6.1 g6.2 d1 d2 (by have := c6.1; show _ ≤ 1 - (1 - z * G7 z / 156); grind) (by exact c6.2)
  have e5 : -(23/1000000) ≤ (1 - x / 110) - G5 z ∧ (1 - x / 110) - G5 z ≤ 23/1000000 := by
    unfold G5
    generalize z * G6 z = Q at *
    constructor <;> grind
  have c4 := hdiff x0 x1 g5.1 g5.2 d1 d2 e5.1 e5.2
  change -(δ + 617/1000 * (23/1000000)) ≤ x * (1 - x / 110) - z * G5 z ∧ x * (1 - x / 110) - z * G5 z ≤ δ + 617/1000 * (23/1000000) at c4
  have e4 : -(2/10000000) ≤ (1 - x * (1 - x / 110) / 72) - G4 z ∧ (1 - x * (1 - x / 110) / 72) - G4 z ≤ 2/10000000 := by
    unfold G4
    generalize z * G5 z = Q at *
    generalize x * (1 - x / 110) = R at *
    constructor <;> grind
  have c3 := hdiff x0 x1 g4.1 g4.2 d1 d2 e4.1 e4.2
  change -(δ + 617/1000 * (2/10000000)) ≤ x * (1 - x * (1 - x / 110) / 72) - z * G4 z ∧ x * (1 - x * (1 - x / 110) / 72) - z * G4 z ≤ δ + 617/1000 * (2/10000000) at c3
  have e3 : -(3/1000000000) ≤ (1 - x * (1 - x * (1 - x / 110) / 72) / 42) - G3 z ∧ (1 - x * (1 - x * (1 - x / 110) / 72) / 42) - G3 z ≤ 3/1000000000 := by
    unfold G3
    generalize z * G4 z = Q at *
    generalize x * (1 - x * (1 - x / 110) / 72) = R at *
    constructor <;> grind
  have c2 := hdiff x0 x1 g3.1 g3.2 d1 d2 e3.1 e3.2
  change -(δ + 617/1000 * (3/1000000000)) ≤ x * (1 - x * (1 - x * (1 - x / 110) / 72) / 42) - z * G3 z ∧ x * (1 - x * (1 - x * (1 - x / 110) / 72) / 42) - z * G3 z ≤ δ + 617/1000 * (3/1000000000) at c2
  have e2 : -(13/100000000000) ≤ (1 - x * (1 - x * (1 - x * (1 - x / 110) / 72) / 42) / 20) - G2 z ∧ (1 - x * (1 - x * (1 - x * (1 - x / 110) / 72) / 42) / 20) - G2 z ≤ 13/100000000000 := by
    unfold G2
    generalize z * G3 z = Q at *
    generalize x * (1 - x * (1 - x * (1 - x / 110) / 72) / 42) = R at *
    constructor <;> grind
  have c1 := hdiff x0 x1 g2.1 g2.2 d1 d2 e2.1 e2.2
  change -(δ + 617/1000 * (13/100000000000)) ≤ x * (1 - x * (1 - x * (1 - x * (1 - x / 110) / 72) / 42) / 20) - z * G2 z ∧ x * (1 - x * (1 - x * (1 - x * (1 - x / 110) / 72) / 42) / 20) - z * G2 z ≤ δ + 617/1000 * (13/100000000000) at c1
  have e1 : -(14/100000000000) ≤ (1 - x * (1 - x * (1 - x * (1 - x * (1 - x / 110) / 72) / 42) / 20) / 6) - G1 z ∧ (1 - x * (1 - x * (1 - x * (1 - x * (1 - x / 110) / 72) / 42) / 20) / 6) - G1 z ≤ 14/100000000000 := by
    unfold G1
    generalize z * G2 z = Q at *
    generalize x * (1 - x * (1 - x * (1 - x * (1 - x / 110) / 72) / 42) / 20) = R at *
    constructor <;> grind
  exact ⟨e1.1, e1.2, g1.1, g1.2⟩
theorem Pc_H {x z δ : Rat} (x0 : 0 ≤ x) (x1 : x ≤ 617/1000) (z0 : 0 ≤ z) (z1 : z ≤ 617/1000) (hδ : δ ≤ 7/10000000000) (d1 : -δ ≤ x - z) (d2 : x - z ≤ δ) :
    -(52/100000000000) ≤ Pc x - H1 z ∧ Pc x - H1 z ≤ 52/100000000000 ∧ 0 ≤ H1 z ∧ H1 z ≤ 1 := by
  have g9 := lev (q := 1) 306 (by grind) z0 z1 (by grind) (by grind)
  have g8 := lev 240 (by grind) z0 z1 g9.1 g9.2
  have g7 := lev 182 (by grind) z0 z1 g8.1 g8.2
  have g6 := lev 132 (by grind) z0 z1 g7.1 g7.2
  have g5 := lev 90 (by grind) z0 z1 g6.1 g6.2
  have g4 := lev 56 (by grind) z0 z1 g5.1 g5.2
  have g3 := lev 30 (by grind) z0 z1 g4.1 g4.2
  have g2 := lev 12 (by grind) z0 z1 g3.1 g3.2
  have g1 := lev 2 (by grind) z0 z1 g2.1 g2.2
  have b7 := xp_b z0 z1 g7.1 g7.2
  change 0 ≤ H1 z ∧ H1 z ≤ 1 at g1
  have c6 : (0:Rat) ≤ 1 - (1 - z * H7 z / 132) ∧ 1 - (1 - z * H7 z / 132) ≤ 5/1000 := by
    change 0 ≤ z * H7 z ∧ z * H7 z ≤ 617/1000 at b7
    generalize z * H7 z = Q at *
    constructor <;> grind
  have c5 := hdiff (p := 1) (q := H6 z) (ε := 5/1000) x0 x1 g6.1 g6.2 d1 d2 (by have := c6.1; show _ ≤ 1 - (1 - z * H7 z / 132); grind) (by exact c6.2)
  have e5 : -(35/1000000) ≤ (1 - x / 90) - H5 z ∧ (1 - x / 90) - H5 z ≤ 35/1000000 := by
    unfold H5
    generalize z * H6 z = Q at *
    constructor <;> grind
  have c4 := hdiff x0 x1 g5.1 g5.2 d1 d2 e5.1 e5.2
  change -(δ + 617/1000 * (35/1000000)) ≤ x * (1 - x / 90) - z * H5 z ∧ x * (1 - x / 90) - z * H5 z ≤ δ + 617/1000 * (35/1000000) at c4
  have e4 : -(4/10000000) ≤ (1 - x * (1 - x / 90) / 56) - H4 z ∧ (1 - x * (1 - x / 90) / 56) - H4 z ≤ 4/10000000 := by
    unfold H4
    generalize z * H5 z = Q at *
    generalize x * (1 - x / 90) = R at *
    constructor <;> grind
  have c3 := hdiff x0 x1 g4.1 g4.2 d1 d2 e4.1 e4.2
  change -(δ + 617/1000 * (4/10000000)) ≤ x * (1 - x * (1 - x / 90) / 56) - z * H4 z ∧ x * (1 - x * (1 - x / 90) / 56) - z * H4 z ≤ δ + 617/1000 * (4/10000000) at c3
  have e3 : -(9/1000000000) ≤ (1 - x * (1 - x * (1 - x / 90) / 56) / 30) - H3 z ∧ (1 - x * (1 - x * (1 - x / 90) / 56) / 30) - H3 z ≤ 9/1000000000 := by
    unfold H3
    generalize z * H4 z = Q at *
    generalize x * (1 - x * (1 - x / 90) / 56) = R at *
    constructor <;> grind
  have c2 := hdiff x0 x1 g3.1 g3.2 d1 d2 e3.1 e3.2
  change -(δ + 617/1000 * (9/1000000000)) ≤ x * (1 - x * (1 - x * (1 - x / 90) / 56) / 30) - z * H3 z ∧ x * (1 - x * (1 - x * (1 - x / 90) / 56) / 30) - z * H3 z ≤ δ + 617/1000 * (9/1000000000) at c2
  have e2 : -(53/100000000000) ≤ (1 - x * (1 - x * (1 - x * (1 - x / 90) / 56) / 30) / 12) - H2 z ∧ (1 - x * (1 - x * (1 - x * (1 - x / 90) / 56) / 30) / 12) - H2 z ≤ 53/100000000000 := by
    unfold H2
    generalize z * H3 z = Q at *
    generalize x * (1 - x * (1 - x * (1 - x / 90) / 56) / 30) = R at *
    constructor <;> grind
  have c1 := hdiff x0 x1 g2.1 g2.2 d1 d2 e2.1 e2.2
  change -(δ + 617/1000 * (53/100000000000)) ≤ x * (1 - x * (1 - x * (1 - x * (1 - x / 90) / 56) / 30) / 12) - z * H2 z ∧ x * (1 - x * (1 - x * (1 - x * (1 - x / 90) / 56) / 30) / 12) - z * H2 z ≤ δ + 617/1000 * (53/100000000000) at c1
  have e1 : -(52/100000000000) ≤ (1 - x * (1 - x * (1 - x * (1 - x * (1 - x / 90) / 56) / 30) / 12) / 2) - H1 z ∧ (1 - x * (1 - x * (1 - x * (1 - x * (1 - x / 90) / 56) / 30) / 12) / 2) - H1 z ≤ 52/100000000000 := by
    unfold H1
    generalize z * H2 z = Q at *
    generalize x * (1 - x * (1 - x * (1 - x * (1 - x / 90) / 56) / 30) / 12) = R at *
    constructor <;> grind
  exact ⟨e1.1, e1.2, g1.1, g1.2⟩

def fdn (x y : Int) : Int := x * y / 1152921504606846976
def fup (x y : Int) : Int := -(-(x * y) / 1152921504606846976)
/-- one term of the law's series: its lower and its upper bound. -/
def tdn (p t n : Int) : Int := fdn (fdn p t) t / n
def tup (p t n : Int) : Int := fup (fup p t) t / n + 1
theorem fdn_b (x y : Int) : fdn x y * 1152921504606846976 ≤ x * y ∧ x * y < fdn x y * 1152921504606846976 + 1152921504606846976 := by unfold fdn; generalize x * y = P; omega
theorem fup_b (x y : Int) : x * y ≤ fup x y * 1152921504606846976 ∧ fup x y * 1152921504606846976 < x * y + 1152921504606846976 := by unfold fup; generalize x * y = P; omega
/-- the two bounds of a term, of an angle between tl and th. -/
structure Tm (pl ph tl th : Int) : Prop where
  p0 : 0 ≤ pl
  le : pl ≤ ph
  gap : ph ≤ pl + 10
  top : ph ≤ 1152921504606846976
structure Tt (tl th : Int) : Prop where
  t0 : 0 ≤ tl
  le : tl ≤ th
  gap : th ≤ tl + 3
  top : th ≤ 906196302621781764
/-- multiplying once keeps the bounds close. -/
theorem tm_mul {pl ph tl th k : Int} (ht : Tt tl th) (p0 : 0 ≤ pl) (le : pl ≤ ph) (gap : ph ≤ pl + k) (top : ph ≤ 1152921504606846976) (k0 : 0 ≤ k) (k1 : k ≤ 20) :
    0 ≤ fdn pl tl ∧ fdn pl tl ≤ fup ph th ∧ 1000 * fup ph th ≤ 1000 * fdn pl tl + 786 * k + 5000 ∧ fup ph th ≤ 906196302621781764 := by
  obtain ⟨t0, tle, tgap, ttop⟩ := ht
  have ⟨a1, a2⟩ := fdn_b pl tl
  have ⟨b1, b2⟩ := fup_b ph th
  have c1 : 0 ≤ pl * tl := Int.mul_nonneg p0 t0
  have c2 : pl * tl ≤ ph * th := Int.mul_le_mul le tle t0 (by omega)
  have c3 : ph * th = ph * (th - tl) + (ph - pl) * tl + pl * tl := by grind
  have c4 : ph * (th - tl) ≤ 1152921504606846976 * 3 := Int.mul_le_mul top (by omega) (by omega) (by omega)
  have c5 : (ph - pl) * tl ≤ k * 906196302621781764 := Int.mul_le_mul (by omega) (by omega) t0 k0
  have c6 : ph * th ≤ 1152921504606846976 * 906196302621781764 := Int.mul_le_mul top ttop (by omega) (by omega)
  generalize ph * (th - tl) = X at *
  generalize (ph - pl) * tl = Y at *
  generalize ph * th = Z at *
  generalize pl * tl = W at *
  generalize fdn pl tl = A at *
  generalize fup ph th = B at *
  refine ⟨by omega, by omega, by omega, by omega⟩
theorem tm_step {pl ph tl th : Int} {n : Int} (ht : Tt tl th) (h : Tm pl ph tl th) (n0 : 2 ≤ n) : Tm (tdn pl tl n) (tup ph th n) tl th := by
  obtain ⟨p0, le, gap, top⟩ := h
  have ⟨a0, a1, a2, a3⟩ := tm_mul ht p0 le gap top (by omega) (by omega)
  have ⟨b0, b1, b2, b3⟩ := tm_mul (k := 13) ht a0 a1 (by omega) (by omega) (by omega) (by omega)
  unfold tdn tup
  generalize fdn (fdn pl tl) tl = A at *
  generalize fup (fup ph th) th = B at *
  have e1 := Int.mul_ediv_add_emod A n
  have e2 := Int.mul_ediv_add_emod B n
  have m1 := Int.emod_nonneg A (by omega : n ≠ 0)
  have m2 := Int.emod_lt_of_pos A (by omega : 0 < n)
  have m3 := Int.emod_nonneg B (by omega : n ≠ 0)
  have m4 := Int.emod_lt_of_pos B (by omega : 0 < n)
  have q0 : 0 ≤ A / n := Int.ediv_nonneg b0 (by omega)
  have q1 : A / n ≤ B / n := Int.ediv_le_ediv (by omega) b1
  have q3 : B / n ≤ B := Int.ediv_le_self _ (by omega)
  have q2 : B / n ≤ A / n + 8 := by
    have h1 : (B / n) < A / n + 9 := by
      refine Int.ediv_lt_of_lt_mul (by omega) ?_
      rw [Int.add_mul, Int.mul_comm (A / n)]
      omega
    omega
  exact ⟨q0, by omega, by omega, by omega⟩

/-- the true value lies between the bounds. -/
def Enc (pl ph : Int) (v : Rat) : Prop := (pl : Rat) ≤ v ∧ v ≤ (ph : Rat)
theorem enc_mul {pl ph tl th : Int} {v y : Rat} (p0 : 0 ≤ pl) (t0 : 0 ≤ tl) (h : Enc pl ph v) (hy : Enc tl th (1152921504606846976 * y)) : Enc (fdn pl tl) (fup ph th) (v * y) := by
  obtain ⟨h1, h2⟩ := h
  obtain ⟨y1, y2⟩ := hy
  have a1 := rle (fdn_b pl tl).1
  have b1 := rle (fup_b ph th).1
  have p0 := rle p0
  have t0 := rle t0
  simp only [Rat.intCast_mul, Rat.intCast_ofNat] at a1 b1 p0 t0
  generalize ((pl : Int) : Rat) = P at *
  generalize ((ph : Int) : Rat) = Q at *
  generalize ((tl : Int) : Rat) = T at *
  generalize ((th : Int) : Rat) = U at *
  have k1 : 0 ≤ P * (1152921504606846976 * y - T) := Rat.mul_nonneg p0 (by grind)
  have k2 : 0 ≤ (v - P) * (1152921504606846976 * y) := Rat.mul_nonneg (by grind) (by grind)
  have k3 : 0 ≤ (Q - v) * U := Rat.mul_nonneg (by grind) (by grind)
  have k4 : 0 ≤ v * (U - 1152921504606846976 * y) := Rat.mul_nonneg (by grind) (by grind)
  unfold Enc
  generalize ((fdn pl tl : Int) : Rat) = A at *
  generalize ((fup ph th : Int) : Rat) = B at *
  have e1 : P * (1152921504606846976 * y - T) = 1152921504606846976 * (P * y) - P * T := by grind
  have e2 : (v - P) * (1152921504606846976 * y) = 1152921504606846976 * (v * y) - 1152921504606846976 * (P * y) := by grind
  have e3 : (Q - v) * U = Q * U - v * U := by grind
  have e4 : v * (U - 1152921504606846976 * y) = v * U - 1152921504606846976 * (v * y) := by grind
  rw [e1] at k1; rw [e2] at k2; rw [e3] at k3; rw [e4] at k4
  constructor <;> grind
theorem enc_div {A B n : Int} {v : Rat} (N : Rat) (hN : (n : Rat) = N) (n0 : 2 ≤ n) (h : Enc A B v) : Enc (A / n) (B / n + 1) (v / N) := by
  obtain ⟨h1, h2⟩ := h
  have e1 := Int.mul_ediv_add_emod A n
  have e2 := Int.mul_ediv_add_emod B n
  have m1 := Int.emod_nonneg A (by omega : n ≠ 0)
  have m4 := Int.emod_lt_of_pos B (by omega : 0 < n)
  have a1 := rle (show n * (A / n) ≤ A by omega)
  have b1 := rle (show B ≤ n * (B / n) + n by omega)
  have n1 := rle n0
  simp only [Rat.intCast_mul, Rat.intCast_add, Rat.intCast_ofNat, hN] at a1 b1 n1
  unfold Enc
  simp only [Rat.intCast_add, Rat.intCast_ofNat]
  generalize ((A / n : Int) : Rat) = a at *
  generalize ((B / n : Int) : Rat) = b at *
  have hv : N * (v / N) = v := by
    have : N ≠ 0 := by grind
    grind
  generalize v / N = z at *
  constructor
  · by_cases h : a ≤ z
    · exact h
    · have k : 0 ≤ (N - 2) * (a - z) := Rat.mul_nonneg (by grind) (by grind)
      have e : (N - 2) * (a - z) = N * a - N * z - 2 * a + 2 * z := by grind
      rw [e] at k
      grind
  · by_cases h : z ≤ b + 1
    · exact h
    · have k : 0 ≤ (N - 2) * (z - b - 1) := Rat.mul_nonneg (by grind) (by grind)
      have e : (N - 2) * (z - b - 1) = N * z - N * b - N - 2 * z + 2 * b + 2 := by grind
      rw [e] at k
      grind
theorem enc_step {pl ph tl th n : Int} {v y : Rat} (N : Rat) (hN : (n : Rat) = N) (ht : Tt tl th) (h : Tm pl ph tl th) (n0 : 2 ≤ n) (he : Enc pl ph v) (hy : Enc tl th (1152921504606846976 * y)) : Enc (tdn pl tl n) (tup ph th n) (v * y * y / N) := by
  have ⟨a0, a1, a2, a3⟩ := tm_mul ht h.p0 h.le h.gap h.top (by omega) (by omega)
  exact enc_div N hN n0 (enc_mul a0 ht.t0 (enc_mul h.p0 ht.t0 he hy) hy)

/-- the alternating sums of nine terms. -/
theorem sum_sin (y D : Rat) (h : D = 1152921504606846976 * y) :
    D - D*y*y/6 + D*y*y/6*y*y/20 - D*y*y/6*y*y/20*y*y/42 + D*y*y/6*y*y/20*y*y/42*y*y/72 - D*y*y/6*y*y/20*y*y/42*y*y/72*y*y/110 + D*y*y/6*y*y/20*y*y/42*y*y/72*y*y/110*y*y/156 - D*y*y/6*y*y/20*y*y/42*y*y/72*y*y/110*y*y/156*y*y/210 + D*y*y/6*y*y/20*y*y/42*y*y/72*y*y/110*y*y/156*y*y/210*y*y/272 - D*y*y/6*y*y/20*y*y/42*y*y/72*y*y/110*y*y/156*y*y/210*y*y/272*y*y/342 = 1152921504606846976 * (y * G1 (y * y)) := by
  unfold G1 G2 G3 G4 G5 G6 G7 G8 G9; grind
theorem sum_cos (y : Rat) (D : Rat) (h : D = 1152921504606846976) :
    D - D*y*y/2 + D*y*y/2*y*y/12 - D*y*y/2*y*y/12*y*y/30 + D*y*y/2*y*y/12*y*y/30*y*y/56 - D*y*y/2*y*y/12*y*y/30*y*y/56*y*y/90 + D*y*y/2*y*y/12*y*y/30*y*y/56*y*y/90*y*y/132 - D*y*y/2*y*y/12*y*y/30*y*y/56*y*y/90*y*y/132*y*y/182 + D*y*y/2*y*y/12*y*y/30*y*y/56*y*y/90*y*y/132*y*y/182*y*y/240 - D*y*y/2*y*y/12*y*y/30*y*y/56*y*y/90*y*y/132*y*y/182*y*y/240*y*y/306 = 1152921504606846976 * H1 (y * y) := by
  unfold H1 H2 H3 H4 H5 H6 H7 H8 H9; grind

/-- the law's series after k terms: bounds of the term and of the sum. -/
structure Ser where
  pl : Int
  ph : Int
  lo : Int
  hi : Int
def nn (f : Int) (k : Nat) : Int := (2 * ((k : Int) + 1) - 1 + f) * (2 * ((k : Int) + 1) + f)
def ser (f tl th p0 p1 : Int) : Nat → Ser
  | 0 => ⟨p0, p1, p0, p1⟩
  | k + 1 =>
    if (k + 1) % 2 = 1 then
      ⟨tdn (ser f tl th p0 p1 k).pl tl (nn f k), tup (ser f tl th p0 p1 k).ph th (nn f k), (ser f tl th p0 p1 k).lo - tup (ser f tl th p0 p1 k).ph th (nn f k), (ser f tl th p0 p1 k).hi - tdn (ser f tl th p0 p1 k).pl tl (nn f k)⟩
    else
      ⟨tdn (ser f tl th p0 p1 k).pl tl (nn f k), tup (ser f tl th p0 p1 k).ph th (nn f k), (ser f tl th p0 p1 k).lo + tdn (ser f tl th p0 p1 k).pl tl (nn f k), (ser f tl th p0 p1 k).hi + tup (ser f tl th p0 p1 k).ph th (nn f k)⟩
def tv (f : Int) (y v : Rat) : Nat → Rat
  | 0 => v
  | k + 1 => tv f y v k * y * y / ((nn f k : Int) : Rat)
def sv (f : Int) (y v : Rat) : Nat → Rat
  | 0 => v
  | k + 1 => if (k + 1) % 2 = 1 then sv f y v k - tv f y v (k + 1) else sv f y v k + tv f y v (k + 1)
theorem nn_ge {f : Int} (h0 : 0 ≤ f) (h1 : f ≤ 1) (k : Nat) : 2 ≤ nn f k := by
  unfold nn
  have hk : (0:Int) ≤ (k : Int) := Int.natCast_nonneg k
  have : (1:Int) * 2 ≤ (2 * ((k : Int) + 1) - 1 + f) * (2 * ((k : Int) + 1) + f) := Int.mul_le_mul (by omega) (by omega) (by omega) (by omega)
  omega
theorem fup_le {x y : Int} (h0 : 0 ≤ x) (h1 : y ≤ 1152921504606846976) : fup x y ≤ x := by
  have ⟨_, b⟩ := fup_b x y
  have : x * y ≤ x * 1152921504606846976 := Int.mul_le_mul_of_nonneg_left h1 h0
  generalize x * y = P at *
  omega
theorem tup_half {ph pl tl th n : Int} (ht : Tt tl th) (h : Tm pl ph tl th) (n0 : 2 ≤ n) : tup ph th n ≤ ph / 2 + 1 := by
  have hp := h.p0
  have hl := h.le
  have ⟨a0, a1, a2, a3⟩ := tm_mul ht h.p0 h.le h.gap h.top (by omega) (by omega)
  have t1 := ht.top
  have h1 : fup ph th ≤ ph := fup_le (by omega) (by omega)
  have h2 : fup (fup ph th) th ≤ fup ph th := fup_le (by omega) (by omega)
  have ⟨b0, b1, _, _⟩ := tm_mul (k := 13) ht a0 a1 (by omega) (by omega) (by omega) (by omega)
  unfold tup
  have b1 := Int.le_trans b0 b1
  generalize fup (fup ph th) th = B at *
  have e2 := Int.mul_ediv_add_emod B n
  have m3 := Int.emod_nonneg B (by omega : n ≠ 0)
  have q0 : 0 ≤ B / n := Int.ediv_nonneg b1 (by omega)
  have q : 2 * (B / n) ≤ n * (B / n) := Int.mul_le_mul_of_nonneg_right n0 q0
  omega
structure SerI (tl th : Int) (k : Nat) (s : Ser) (v w : Rat) : Prop where
  tm : Tm s.pl s.ph tl th
  te : Enc s.pl s.ph v
  se : Enc s.lo s.hi w
  gap : s.hi ≤ s.lo + 10 * ((k : Int) + 1)
  le : s.lo ≤ s.hi
  low : -(2305843009213693952 + 2 * (k : Int)) + s.ph ≤ s.lo
  high : s.hi + s.ph ≤ 2305843009213693952 + 2 * (k : Int)
theorem ser_inv {f tl th p0 p1 : Int} {y v : Rat} (f0 : 0 ≤ f) (f1 : f ≤ 1) (ht : Tt tl th) (h : Tm p0 p1 tl th) (hy : Enc tl th (1152921504606846976 * y)) (hv : Enc p0 p1 v) (k : Nat) :
    SerI tl th k (ser f tl th p0 p1 k) (tv f y v k) (sv f y v k) := by
  induction k with
  | zero => 
    obtain ⟨a, b, c, d⟩ := h
    exact ⟨⟨a, b, c, d⟩, hv, hv, by simp only [ser]; omega, by simp only [ser]; omega, by simp only [ser]; omega, by simp only [ser]; omega⟩
  | succ k ih =>
    obtain ⟨tm, te, se, gap, le, low, high⟩ := ih
    have n0 := nn_ge f0 f1 k
    have s1 := tm_step ht tm n0
    have s2 := enc_step ((nn f k : Int) : Rat) rfl ht tm n0 te hy
    have s3 := tup_half ht tm n0
    have hk : (((k + 1 : Nat) : Int)) = (k : Int) + 1 := by omega
    have tp := tm.p0
    have tq := tm.le
    have ⟨u0, u1, u2, u3⟩ := s1
    rw [show tv f y v (k + 1) = tv f y v k * y * y / ((nn f k : Int) : Rat) from rfl]
    simp only [ser, sv]
    rw [show tv f y v (k + 1) = tv f y v k * y * y / ((nn f k : Int) : Rat) from rfl]
    generalize tv f y v k * y * y / ((nn f k : Int) : Rat) = X at *
    generalize tdn (ser f tl th p0 p1 k).pl tl (nn f k) = A at *
    generalize tup (ser f tl th p0 p1 k).ph th (nn f k) = B at *
    generalize (ser f tl th p0 p1 k) = s at *
    generalize sv f y v k = W at *
    obtain ⟨se1, se2⟩ := se
    obtain ⟨x1, x2⟩ := s2
    by_cases hp : (k + 1) % 2 = 1
    · simp only [if_pos hp]
      refine ⟨s1, ⟨x1, x2⟩, ⟨?_, ?_⟩, ?_, ?_, ?_, ?_⟩
      · show ((s.lo - B : Int) : Rat) ≤ _
        rw [Rat.intCast_sub]; grind
      · show _ ≤ ((s.hi - A : Int) : Rat)
        rw [Rat.intCast_sub]; grind
      all_goals (show _ ≤ _; dsimp only; omega)
    · simp only [if_neg hp]
      refine ⟨s1, ⟨x1, x2⟩, ⟨?_, ?_⟩, ?_, ?_, ?_, ?_⟩
      · show ((s.lo + A : Int) : Rat) ≤ _
        rw [Rat.intCast_add]; grind
      · show _ ≤ ((s.hi + B : Int) : Rat)
        rw [Rat.intCast_add]; grind
      all_goals (show _ ≤ _; dsimp only; omega)
theorem sv_sin (y D : Rat) (h : D = 1152921504606846976 * y) : sv 1 y D 9 = 1152921504606846976 * (y * G1 (y * y)) := by
  rw [← sum_sin y D h]
  simp [sv, tv, nn]
theorem sv_cos (y D : Rat) (h : D = 1152921504606846976) : sv 0 y D 9 = 1152921504606846976 * H1 (y * y) := by
  rw [← sum_cos y D h]
  simp [sv, tv, nn]

/-- the bounds of the angle in the law's series. -/
def tlo (a : Int) : Int := a * 3622009729038561421 / 64800000
def thi (a : Int) : Int := -(-(a * 3622009729038561422) / 64800000)
theorem tt_a {a : Int} (h0 : 0 ≤ a) (h1 : a ≤ 16200000) : Tt (tlo a) (thi a) := by
  unfold tlo thi
  refine ⟨by omega, by omega, by omega, by omega⟩
theorem tq_lo {a : Int} (h0 : 0 ≤ a) (h1 : a ≤ 16200000) : -304000000 ≤ 536870912 * tq a - tlo a ∧ 536870912 * tq a - tlo a ≤ 268435458 := by
  unfold tlo tq
  omega
/-- the angle and its square in the program's series, against the law's. -/
theorem ang {T U Y : Rat} (T0 : 0 ≤ T) (T1 : T ≤ 1686629713) (Y0 : 0 ≤ Y) (h1 : -(567/1000) ≤ T - Y) (h2 : T - Y ≤ 501/1000)
    (m1 : U * 2147483648 ≤ T * T + 1073741824) (m2 : T * T - 1073741824 ≤ U * 2147483648) :
    -(3000000000) ≤ U * 2147483648 - Y * Y ∧ U * 2147483648 - Y * Y ≤ 3000000000 := by
  have e : T * T - Y * Y = (T + Y) * (T - Y) := by grind
  have ⟨k1, k2⟩ := ab_b (A := T + Y) (M := 3373259427) (by grind) (by grind) h1 h2 (by grind) (by grind)
  constructor <;> grind
theorem near_pair {a : Int} (h0 : 0 ≤ a) (h1 : a ≤ 16200000) (y : Rat) (hy : ((tlo a : Int) : Rat) = 1152921504606846976 * y) :
    (-(4:Rat) + 1/100 ≤ 2 * (sine a : Rat) - 2147483648 * (y * G1 (y * y)) ∧ 2 * (sine a : Rat) - 2147483648 * (y * G1 (y * y)) ≤ 4 - 1/100) ∧
    (-(4:Rat) + 1/100 ≤ 2 * (cosine a : Rat) - 2147483648 * H1 (y * y) ∧ 2 * (cosine a : Rat) - 2147483648 * H1 (y * y) ≤ 4 - 1/100) := by
  have ⟨t0, t1⟩ := tq_b h0 h1
  have ⟨u0, u1⟩ := uq_b h0 h1
  obtain ⟨x, hx⟩ : ∃ x : Rat, ((uq a : Int) : Rat) = 2147483648 * x := ⟨((uq a : Int) : Rat) / 2147483648, by grind⟩
  have x0 : 0 ≤ x := by have := rle u0; rw [hx] at this; grind
  have x1 : x ≤ 617/1000 := by have := rle u1; rw [hx] at this; grind
  have ns := near_rs x0 x1 hx
  have nc := near_rc x0 x1 hx
  have ps := Ps_b x0 x1
  have mt := mul31_r (tq a) (tq a)
  have ms := mul31_r (tq a) (rs (uq a))
  have es : 2 * sine a ≤ mul31 (tq a) (rs (uq a)) + 1 ∧ mul31 (tq a) (rs (uq a)) ≤ 2 * sine a := by unfold sine; omega
  have ec : 2 * cosine a ≤ rc (uq a) + 1 ∧ rc (uq a) ≤ 2 * cosine a := by unfold cosine; omega
  have ⟨q1, q2⟩ := tq_lo h0 h1
  have tt := tt_a h0 h1
  have y0 := rle tt.t0
  have y1 := rle (show tlo a ≤ 906196302621781764 from Int.le_trans tt.le tt.top)
  have q1 := rle q1
  have q2 := rle q2
  have s1 := rle es.1
  have s2 := rle es.2
  have c1 := rle ec.1
  have c2 := rle ec.2
  have T0 := rle t0
  have T1 := rle t1
  have hu : ((mul31 (tq a) (tq a) : Int) : Rat) = 2147483648 * x := hx
  simp only [Rat.intCast_mul, Rat.intCast_add, Rat.intCast_sub, Rat.intCast_neg, Rat.intCast_ofNat, hy] at s1 s2 c1 c2 T0 T1 q1 q2 y0 y1
  rw [hu] at mt
  have y0 : 0 ≤ y := by grind
  have y1 : y ≤ 7860/10000 := by grind
  have d1 : -(567/1000) ≤ (tq a : Rat) - 2147483648 * y := by grind
  have d2 : (tq a : Rat) - 2147483648 * y ≤ 501/1000 := by grind
  have ⟨a1, a2⟩ := ang T0 T1 (Y := 2147483648 * y) (by grind) d1 d2 mt.1 mt.2
  have z1 : -(7/10000000000) ≤ x - y * y := by grind
  have z2 : x - y * y ≤ 7/10000000000 := by grind
  have yy0 : 0 ≤ y * y := Rat.mul_nonneg y0 y0
  have yy1 : y * y ≤ 617/1000 ∨ 617/1000 < y * y := by grind
  have yy1 : y * y ≤ 617/1000 := by
    have y2 : y ≤ 78546/100000 := by grind
    have := Rat.mul_nonneg (a := 78546/100000 - y) (b := 78546/100000 + y) (by grind) (by grind)
    grind
  have g := Ps_G x0 x1 yy0 yy1 (δ := 7/10000000000) (by grind) z1 z2
  have h := Pc_H x0 x1 yy0 yy1 (δ := 7/10000000000) (by grind) z1 z2
  obtain ⟨ns1, ns2⟩ := ns
  obtain ⟨nc1, nc2⟩ := nc
  generalize ((sine a : Int) : Rat) = s at *
  generalize ((cosine a : Int) : Rat) = c at *
  generalize ((mul31 (tq a) (rs (uq a)) : Int) : Rat) = m at *
  generalize ((rs (uq a) : Int) : Rat) = R at *
  generalize ((rc (uq a) : Int) : Rat) = C at *
  generalize ((tq a : Int) : Rat) = T at *
  have ⟨al1, al2⟩ := sine_near T0 T1 ns1 ns2 ms.1 ms.2 s1 s2
  generalize Ps x = p at *
  generalize Pc x = q at *
  generalize G1 (y * y) = G at *
  generalize H1 (y * y) = H at *
  clear ns1 ns2 ms s1 s2 hu hx mt
  refine ⟨?_, ?_⟩
  · obtain ⟨g1, g2, g3, g4⟩ := g
    have ⟨k1, k2⟩ := ab_b (A := p) (M := 1) (by grind) ps.2 d1 d2 (by grind) (by grind)
    have ⟨l1, l2⟩ := ab_b (A := y) (M := 1) y0 (by grind) g1 g2 (by grind) (by grind)
    have e : T * p - 2147483648 * (y * G) = p * (T - 2147483648 * y) + 2147483648 * (y * (p - G)) := by grind
    generalize p * (T - 2147483648 * y) = K at *
    generalize y * (p - G) = L at *
    generalize T * p = A at *
    generalize y * G = B at *
    constructor <;> grind
  · obtain ⟨g1, g2, g3, g4⟩ := h
    constructor <;> grind

/-- what the law's test of v by the series' bounds asks, and that nothing overflows. -/
structure Cert (s : Ser) (v : Int) : Prop where
  up : s.hi + 1 ≤ (v + 2) * 1073741824
  dn : (v - 2) * 1073741824 ≤ s.lo
theorem cert_of {s : Ser} {v : Int} {V : Rat} (se : Enc s.lo s.hi V) (gap : s.hi ≤ s.lo + 100) (h1 : -(4:Rat) + 1/100 ≤ 2 * (v : Rat) - V / 536870912) (h2 : 2 * (v : Rat) - V / 536870912 ≤ 4 - 1/100) : Cert s v := by
  obtain ⟨e1, e2⟩ := se
  have g := rle gap
  simp only [Rat.intCast_add, Rat.intCast_ofNat] at g
  constructor
  · refine Rat.intCast_le_intCast.1 ?_
    simp only [Rat.intCast_mul, Rat.intCast_add, Rat.intCast_ofNat]
    generalize ((s.hi : Int) : Rat) = A at *
    generalize ((s.lo : Int) : Rat) = B at *
    grind
  · refine Rat.intCast_le_intCast.1 ?_
    simp only [Rat.intCast_mul, Rat.intCast_sub, Rat.intCast_ofNat]
    generalize ((s.hi : Int) : Rat) = A at *
    generalize ((s.lo : Int) : Rat) = B at *
    grind
def ser1 (a : Int) (k : Nat) : Ser := ser 1 (tlo a) (thi a) (tlo a) (thi a) k
def ser0 (a : Int) (k : Nat) : Ser := ser 0 (tlo a) (thi a) 1152921504606846976 1152921504606846976 k
theorem tm_1 {a : Int} (h0 : 0 ≤ a) (h1 : a ≤ 16200000) : Tm (tlo a) (thi a) (tlo a) (thi a) := by
  obtain ⟨t0, t1, t2, t3⟩ := tt_a h0 h1
  exact ⟨t0, t1, by omega, by omega⟩
theorem enc_y {a : Int} (h0 : 0 ≤ a) (h1 : a ≤ 16200000) {y : Rat} (hy : ((tlo a : Int) : Rat) = 1152921504606846976 * y) : Enc (tlo a) (thi a) (1152921504606846976 * y) := by
  rw [← hy]
  exact ⟨by grind, rle (tt_a h0 h1).le⟩
theorem cert_1 {a : Int} (h0 : 0 ≤ a) (h1 : a ≤ 16200000) : Cert (ser1 a 9) (sine a) := by
  obtain ⟨y, hy⟩ : ∃ y : Rat, ((tlo a : Int) : Rat) = 1152921504606846976 * y := ⟨((tlo a : Int) : Rat) / 1152921504606846976, by grind⟩
  have ey := enc_y h0 h1 hy
  have i := ser_inv (f := 1) (by omega) (by omega) (tt_a h0 h1) (tm_1 h0 h1) ey ey 9
  rw [sv_sin y _ rfl] at i
  have ⟨⟨n1, n2⟩, _⟩ := near_pair h0 h1 y hy
  refine cert_of i.se (by have := i.gap; unfold ser1; omega) ?_ ?_ <;> grind
theorem cert_0 {a : Int} (h0 : 0 ≤ a) (h1 : a ≤ 16200000) : Cert (ser0 a 9) (cosine a) := by
  obtain ⟨y, hy⟩ : ∃ y : Rat, ((tlo a : Int) : Rat) = 1152921504606846976 * y := ⟨((tlo a : Int) : Rat) / 1152921504606846976, by grind⟩
  have ey := enc_y h0 h1 hy
  have i := ser_inv (f := 0) (v := 1152921504606846976) (by omega) (by omega) (tt_a h0 h1) (p0 := 1152921504606846976) (p1 := 1152921504606846976) ⟨by omega, by omega, by omega, by omega⟩ ey ⟨by simp, by simp⟩ 9
  rw [sv_cos y _ rfl] at i
  have ⟨_, n1, n2⟩ := near_pair h0 h1 y hy
  refine cert_of i.se (by have := i.gap; unfold ser0; omega) ?_ ?_ <;> grind
/-- bounds along the way: no overflow. -/
structure SerB (tl th : Int) (k : Nat) (s : Ser) : Prop where
  p0 : 0 ≤ s.pl
  le : s.pl ≤ s.ph
  top : s.ph ≤ 1152921504606846976
  low : -(2305843009213693952 + 2 * (k : Int)) ≤ s.lo
  high : s.hi ≤ 2305843009213693952 + 2 * (k : Int)
  lohi : s.lo ≤ s.hi
  mid : 0 ≤ fdn s.pl tl ∧ fdn s.pl tl ≤ 1152921504606846976 ∧ 0 ≤ fup s.ph th ∧ fup s.ph th ≤ 1152921504606846976 
  mid2 : 0 ≤ fdn (fdn s.pl tl) tl ∧ fdn (fdn s.pl tl) tl ≤ 1152921504606846976 ∧ 0 ≤ fup (fup s.ph th) th ∧ fup (fup s.ph th) th ≤ 1152921504606846976
theorem serB_of {tl th : Int} {k : Nat} {s : Ser} {v w : Rat} (ht : Tt tl th) (h : SerI tl th k s v w) : SerB tl th k s := by
  obtain ⟨tm, te, se, gap, le, low, high⟩ := h
  have ⟨a0, a1, a2, a3⟩ := tm_mul ht tm.p0 tm.le tm.gap tm.top (by omega) (by omega)
  have ⟨b0, b1, b2, b3⟩ := tm_mul (k := 13) ht a0 a1 (by omega) (by omega) (by omega) (by omega)
  have t1 := tm.p0
  have t2 := tm.le
  exact ⟨tm.p0, tm.le, tm.top, by omega, by omega, le, ⟨a0, by omega, by omega, by omega⟩, ⟨b0, by omega, by omega, by omega⟩⟩
theorem ser1_b {a : Int} (h0 : 0 ≤ a) (h1 : a ≤ 16200000) (k : Nat) : SerB (tlo a) (thi a) k (ser1 a k) := by
  obtain ⟨y, hy⟩ : ∃ y : Rat, ((tlo a : Int) : Rat) = 1152921504606846976 * y := ⟨((tlo a : Int) : Rat) / 1152921504606846976, by grind⟩
  have ey := enc_y h0 h1 hy
  exact serB_of (tt_a h0 h1) (ser_inv (f := 1) (by omega) (by omega) (tt_a h0 h1) (tm_1 h0 h1) ey ey k)
theorem ser0_b {a : Int} (h0 : 0 ≤ a) (h1 : a ≤ 16200000) (k : Nat) : SerB (tlo a) (thi a) k (ser0 a k) := by
  obtain ⟨y, hy⟩ : ∃ y : Rat, ((tlo a : Int) : Rat) = 1152921504606846976 * y := ⟨((tlo a : Int) : Rat) / 1152921504606846976, by grind⟩
  have ey := enc_y h0 h1 hy
  exact serB_of (tt_a h0 h1) (ser_inv (f := 0) (v := 1152921504606846976) (by omega) (by omega) (tt_a h0 h1) (p0 := 1152921504606846976) (p1 := 1152921504606846976) ⟨by omega, by omega, by omega, by omega⟩ ey ⟨by simp, by simp⟩ k)

end Fdk
