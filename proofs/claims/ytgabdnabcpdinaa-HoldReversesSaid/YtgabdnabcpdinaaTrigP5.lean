/- Plain facts: the two series against polynomials, and their squares (5). No program in sight. -/
import Derived.Test.YtgabdnabcpdinaaTrigP1
namespace Fdk
set_option linter.unusedVariables false
theorem rle {a b : Int} (h : a ≤ b) : (a : Rat) ≤ (b : Rat) := Rat.intCast_le_intCast.2 h
/-- a product of a number from 0 to 617/1000 and a small one. -/
theorem xd_b {x d e : Rat} (h0 : 0 ≤ x) (h1 : x ≤ 617/1000) (h2 : -e ≤ d) (h3 : d ≤ e) : -(617/1000 * e) ≤ x * d ∧ x * d ≤ 617/1000 * e := by
  have he : 0 ≤ e := by grind
  have k1 : 0 ≤ x * (e - d) := Rat.mul_nonneg h0 (by grind)
  have k2 : 0 ≤ x * (e + d) := Rat.mul_nonneg h0 (by grind)
  have k3 : 0 ≤ (617/1000 - x) * e := Rat.mul_nonneg (by grind) he
  constructor <;> grind
/-- how close r is to S times p. -/
def Near (r : Int) (p e : Rat) : Prop := -e ≤ (r : Rat) - 2147483648 * p ∧ (r : Rat) - 2147483648 * p ≤ e
theorem mul31_r (x y : Int) : (mul31 x y : Rat) * 2147483648 ≤ (x : Rat) * y + 1073741824 ∧ (x : Rat) * y - 1073741824 ≤ (mul31 x y : Rat) * 2147483648 := by
  have h1 : mul31 x y * 2147483648 ≤ x * y + 1073741824 := by unfold mul31; generalize x * y = P; omega
  have h2 : x * y - 1073741824 ≤ mul31 x y * 2147483648 := by unfold mul31; generalize x * y = P; omega
  have k1 := rle h1
  have k2 := rle h2
  simp only [Rat.intCast_mul, Rat.intCast_add, Rat.intCast_sub, Rat.intCast_ofNat] at k1 k2
  exact ⟨k1, k2⟩
/-- one division of the series. -/
theorem sdv_r {n : Int} (hn : n = 110 ∨ n = 72 ∨ n = 42 ∨ n = 20 ∨ n = 6 ∨ n = 90 ∨ n = 56 ∨ n = 30 ∨ n = 12 ∨ n = 2) (m : Int) :
    (n : Rat) * sdv m n ≤ (m : Rat) + n / 2 ∧ (m : Rat) - n / 2 ≤ (n : Rat) * sdv m n := by
  have h1 : 2 * (n * sdv m n) ≤ 2 * m + n := by
    rcases hn with rfl | rfl | rfl | rfl | rfl | rfl | rfl | rfl | rfl | rfl <;> (unfold sdv; omega)
  have h2 : 2 * m - n ≤ 2 * (n * sdv m n) := by
    rcases hn with rfl | rfl | rfl | rfl | rfl | rfl | rfl | rfl | rfl | rfl <;> (unfold sdv; omega)
  have k1 := rle h1
  have k2 := rle h2
  simp only [Rat.intCast_mul, Rat.intCast_add, Rat.intCast_sub, Rat.intCast_ofNat] at k1 k2
  constructor <;> grind
theorem near_mono {r : Int} {p e e' : Rat} (h : Near r p e) (he : e ≤ e') : Near r p e' := ⟨by have := h.1; grind, by have := h.2; grind⟩
section
variable {u r : Int} {x p e : Rat}
theorem near_first {n : Int} (N : Rat) (hN : (n : Rat) = N) (hn : n = 110 ∨ n = 90) (hx : (u : Rat) = 2147483648 * x) : Near (2147483648 - sdv u n) (1 - x / N) (1/2) := by
  have ⟨a, b⟩ := sdv_r (n := n) (by rcases hn with rfl | rfl <;> simp) u
  rw [hN] at a b
  rcases hn with rfl | rfl
  · have : N = 110 := hN.symm.trans rfl
    subst this
    constructor <;> simp only [Rat.intCast_sub, Rat.intCast_ofNat] <;> grind
  · have : N = 90 := hN.symm.trans rfl
    subst this
    constructor <;> simp only [Rat.intCast_sub, Rat.intCast_ofNat] <;> grind
end
/-- the two series as polynomials. -/
def Ps (x : Rat) : Rat := 1 - x * (1 - x * (1 - x * (1 - x * (1 - x / 110) / 72) / 42) / 20) / 6
def Pc (x : Rat) : Rat := 1 - x * (1 - x * (1 - x * (1 - x * (1 - x / 90) / 56) / 30) / 12) / 2
theorem xp_b {x p : Rat} (h0 : 0 ≤ x) (h1 : x ≤ 617/1000) (h2 : 0 ≤ p) (h3 : p ≤ 1) : 0 ≤ x * p ∧ x * p ≤ 617/1000 := by
  have k1 : 0 ≤ x * p := Rat.mul_nonneg h0 h2
  have k2 : 0 ≤ x * (1 - p) := Rat.mul_nonneg h0 (by grind)
  constructor <;> grind
theorem PsPc (x : Rat) : x * (Ps x * Ps x) + Pc x * Pc x - 1 = x*x*x*x*x*x*(-1/239500800+ x*(1/558835200 + x*(-1/7664025600+x*(1/258660864000 + x*(-1/16094453760000+ x/1593350922240000))))) := by
  unfold Ps Pc; grind
theorem tiny_b {x : Rat} (h0 : 0 ≤ x) (h1 : x ≤ 617/1000) : -(4/10000000000) ≤ x * (Ps x * Ps x) + Pc x * Pc x - 1 ∧ x * (Ps x * Ps x) + Pc x * Pc x - 1 ≤ 4/10000000000 := by
  rw [PsPc]
  have k2 : 0 ≤ (617/1000 - x) * x := Rat.mul_nonneg (by grind) h0
  have n2 : 0 ≤ x * x := Rat.mul_nonneg h0 h0
  have u2 : x * x ≤ 3807/10000 := by grind
  have k3 : 0 ≤ (617/1000 - x) * (x * x) := Rat.mul_nonneg (by grind) n2
  have n3 : 0 ≤ x * x * x := Rat.mul_nonneg n2 h0
  have u3 : x * x * x ≤ 2349/10000 := by grind
  have k6 : 0 ≤ (2349/10000 - x * x * x) * (x * x * x) := Rat.mul_nonneg (by grind) n3
  have n6 : 0 ≤ (x * x * x) * (x * x * x) := Rat.mul_nonneg n3 n3
  have u6 : (x * x * x) * (x * x * x) ≤ 552/10000 := by grind
  have e1 : -(1/100000000000) ≤ -1/16094453760000+ x/1593350922240000 ∧ -1/16094453760000+ x/1593350922240000 ≤ 1/100000000000 := by constructor <;> grind
  have e2 := xd_b h0 h1 e1.1 e1.2
  have e3 : -(1/10000000000) ≤ 1/258660864000 + x*(-1/16094453760000+ x/1593350922240000) ∧ 1/258660864000 + x*(-1/16094453760000+ x/1593350922240000) ≤ 1/10000000000 := by
    generalize x*(-1/16094453760000+ x/1593350922240000) = Q at *
    constructor <;> grind
  have e4 := xd_b h0 h1 e3.1 e3.2
  have e5 : -(2/10000000000) ≤ -1/7664025600+x*(1/258660864000 + x*(-1/16094453760000+ x/1593350922240000)) ∧ -1/7664025600+x*(1/258660864000 + x*(-1/16094453760000+ x/1593350922240000)) ≤ 2/10000000000 := by
    generalize x*(1/258660864000 + x*(-1/16094453760000+ x/1593350922240000)) = Q at *
    constructor <;> grind
  have e6 := xd_b h0 h1 e5.1 e5.2
  have e7 : -(20/10000000000) ≤ 1/558835200 + x*(-1/7664025600+x*(1/258660864000 + x*(-1/16094453760000+ x/1593350922240000))) ∧ 1/558835200 + x*(-1/7664025600+x*(1/258660864000 + x*(-1/16094453760000+ x/1593350922240000))) ≤ 20/10000000000 := by
    generalize x*(-1/7664025600+x*(1/258660864000 + x*(-1/16094453760000+ x/1593350922240000))) = Q at *
    constructor <;> grind
  have e8 := xd_b h0 h1 e7.1 e7.2
  have e9 : -(60/10000000000) ≤ -1/239500800+ x*(1/558835200 + x*(-1/7664025600+x*(1/258660864000 + x*(-1/16094453760000+ x/1593350922240000)))) ∧ -1/239500800+ x*(1/558835200 + x*(-1/7664025600+x*(1/258660864000 + x*(-1/16094453760000+ x/1593350922240000)))) ≤ 60/10000000000 := by
    generalize x*(1/558835200 + x*(-1/7664025600+x*(1/258660864000 + x*(-1/16094453760000+ x/1593350922240000)))) = Q at *
    constructor <;> grind
  have e10 := xd_b (x := (x * x * x) * (x * x * x)) n6 (by grind) e9.1 e9.2
  have eq : x*x*x*x*x*x = (x * x * x) * (x * x * x) := by grind
  rw [eq]
  generalize -1/239500800+ x*(1/558835200 + x*(-1/7664025600+x*(1/258660864000 + x*(-1/16094453760000+ x/1593350922240000)))) = K at *
  generalize (x * x * x) * (x * x * x) = X at *
  have m1 : 0 ≤ (552/10000 - X) * (60/10000000000 - K) := Rat.mul_nonneg (by grind) (by grind)
  have m2 : 0 ≤ (552/10000 - X) * (60/10000000000 + K) := Rat.mul_nonneg (by grind) (by grind)
  have m3 : 0 ≤ X * (60/10000000000 - K) := Rat.mul_nonneg n6 (by grind)
  have m4 : 0 ≤ X * (60/10000000000 + K) := Rat.mul_nonneg n6 (by grind)
  constructor <;> grind
theorem ab_b {A d M lo hi : Rat} (h0 : 0 ≤ A) (h1 : A ≤ M) (h2 : lo ≤ d) (h3 : d ≤ hi) (h4 : lo ≤ 0) (h5 : 0 ≤ hi) : M * lo ≤ A * d ∧ A * d ≤ M * hi := by
  have k1 : 0 ≤ A * (hi - d) := Rat.mul_nonneg h0 (by grind)
  have k2 : 0 ≤ A * (d - lo) := Rat.mul_nonneg h0 (by grind)
  have k3 : 0 ≤ (M - A) * hi := Rat.mul_nonneg (by grind) h5
  have k4 : 0 ≤ (M - A) * (-lo) := Rat.mul_nonneg (by grind) (by grind)
  constructor <;> grind
end Fdk
