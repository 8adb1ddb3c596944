/- The contracts of package trig's sines and cosines, and of the reference's. -/
import Derived.Test.YtfchbgcgdcoplaaAngle
import Derived.Test.YtfchbgcgdcoplaaTrigP3
namespace Go.Proofs.Ytfchbgcgdcoplaa
open Go.RowKit Fdk
set_option linter.unusedVariables false

/-- r behind so many rounds of the sine series, of the cosine series. -/
def rs1 (u : Int) : Int := 2147483648 - sdv u 110
def rs2 (u : Int) : Int := nx u (rs1 u) 72
def rs3 (u : Int) : Int := nx u (rs2 u) 42
def rs4 (u : Int) : Int := nx u (rs3 u) 20
def rs5 (u : Int) : Int := nx u (rs4 u) 6
def rsk (u : Int) : Nat → Int | 0 => 2147483648 | 1 => rs1 u | 2 => rs2 u | 3 => rs3 u | 4 => rs4 u | _ => rs5 u
def rc1 (u : Int) : Int := 2147483648 - sdv u 90
def rc2 (u : Int) : Int := nx u (rc1 u) 56
def rc3 (u : Int) : Int := nx u (rc2 u) 30
def rc4 (u : Int) : Int := nx u (rc3 u) 12
def rc5 (u : Int) : Int := nx u (rc4 u) 2
def rck (u : Int) : Nat → Int | 0 => 2147483648 | 1 => rc1 u | 2 => rc2 u | 3 => rc3 u | 4 => rc4 u | _ => rc5 u
theorem rsk_5 (u : Int) : rsk u 5 = rs u := by unfold rs; rfl
theorem rck_5 (u : Int) : rck u 5 = rc u := by unfold rc; rfl
/-- the bounds of a product in the series. -/
theorem ur_b {u r : Int} (h0 : 0 ≤ u) (h1 : u ≤ 1324700000) (h2 : 1324700000 ≤ r) (h3 : r ≤ 2147483648) : 0 ≤ u * r ∧ u * r ≤ 2900000000000000000 ∧ 0 ≤ mul31 u r ∧ mul31 u r ≤ 1324700000 := by
  obtain ⟨p0, _, _, p3, _⟩ := prod u u r r h0 (Int.le_refl _) h1 h2 (Int.le_refl _) h3 (by omega)
  unfold mul31
  generalize u * r = P at *
  omega
theorem rsk_b {u : Int} (h0 : 0 ≤ u) (h1 : u ≤ 1324700000) (k : Nat) (hk : k ≤ 5) : 1324700000 ≤ rsk u k ∧ rsk u k ≤ 2147483648 := by
  have t1 := two0 (n := 110) (by simp) h0 (Int.le_refl u) h1
  have t2 := two1 (n := 72) (by simp) h0 (Int.le_refl u) h1 t1
  have t3 := two1 (n := 42) (by simp) h0 (Int.le_refl u) h1 t2
  have t4 := two1 (n := 20) (by simp) h0 (Int.le_refl u) h1 t3
  have t5 := two1 (n := 6) (by simp) h0 (Int.le_refl u) h1 t4
  match k, hk with
  | 0, _ => exact ⟨(by decide : (1324700000 : Int) ≤ 2147483648), Int.le_refl _⟩
  | 1, _ => exact ⟨t1.lo, t1.hi⟩
  | 2, _ => exact ⟨t2.lo, t2.hi⟩
  | 3, _ => exact ⟨t3.lo, t3.hi⟩
  | 4, _ => exact ⟨t4.lo, t4.hi⟩
  | 5, _ => exact ⟨t5.lo, t5.hi⟩
theorem rck_b {u : Int} (h0 : 0 ≤ u) (h1 : u ≤ 1324700000) (k : Nat) (hk : k ≤ 5) : 1324700000 ≤ rck u k ∧ rck u k ≤ 2147483648 := by
  have t1 := two0 (n := 90) (by simp) h0 (Int.le_refl u) h1
  have t2 := two1 (n := 56) (by simp) h0 (Int.le_refl u) h1 t1
  have t3 := two1 (n := 30) (by simp) h0 (Int.le_refl u) h1 t2
  have t4 := two1 (n := 12) (by simp) h0 (Int.le_refl u) h1 t3
  have t5 := two1 (n := 2) (by simp) h0 (Int.le_refl u) h1 t4
  match k, hk with
  | 0, _ => exact ⟨(by decide : (1324700000 : Int) ≤ 2147483648), Int.le_refl _⟩
  | 1, _ => exact ⟨t1.lo, t1.hi⟩
  | 2, _ => exact ⟨t2.lo, t2.hi⟩
  | 3, _ => exact ⟨t3.lo, t3.hi⟩
  | 4, _ => exact ⟨t4.lo, t4.hi⟩
  | 5, _ => exact ⟨t5.lo, t5.hi⟩

theorem sdv_b {x : Int} (n : Int) (h0 : 0 ≤ x) (h1 : x ≤ 1324700000) (hn : 2 ≤ n) (hn2 : n ≤ 200) : 0 ≤ sdv x n ∧ sdv x n ≤ 2147483648 := by
  unfold sdv
  have := Int.ediv_nonneg (a := x + n / 2) (b := n) (by omega) (by omega)
  have := Int.ediv_le_self (a := x + n / 2) n (by omega)
  omega
theorem tr_b {a r : Int} (h0 : 0 ≤ a) (h1 : a ≤ 16200000) (h2 : 1324700000 ≤ r) (h3 : r ≤ 2147483648) : (0 ≤ tq a * r ∧ tq a * r ≤ 4000000000000000000) ∧ 0 ≤ mul31 (tq a) r ∧ mul31 (tq a) r ≤ 1700000000 := by
  have ⟨t0, t1⟩ := tq_b h0 h1
  have k0 : 0 ≤ tq a * r := Int.mul_nonneg t0 (by omega)
  have k1 : tq a * r ≤ 1686629713 * 2147483648 := Int.mul_le_mul t1 h3 (by omega) (by omega)
  unfold mul31
  generalize tq a * r = P at *
  omega



end Go.Proofs.Ytfchbgcgdcoplaa
