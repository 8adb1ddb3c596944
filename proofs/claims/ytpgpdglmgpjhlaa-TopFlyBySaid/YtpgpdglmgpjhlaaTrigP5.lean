/- Plain facts: the two series against polynomials, and their squares (5). No program in sight. -/
import Derived.Test.YtpgpdglmgpjhlaaTrigP1
namespace Fdk
set_option linter.unusedVariables false
theorem rle {a b : Int} (h : a ≤ b) : (a : Rat) ≤ (b : Rat) := Rat.intCast_le_intCast.2 h
/-- a product of a number from 0 to 617/1000 and a small one. -/
theorem xd_b {x d e : Rat} (h0 : 0 ≤ x) (h1 : x ≤ 617/1000) (h2 : -e ≤ d) (h3 : d ≤ e) : -(617/1000 * e) ≤ x * d ∧ x * d ≤ 617/1000 * e := by
  have he : 0 ≤ e := by grind
  have k1 : 0 ≤ x * (e - d) := Rat.mul_nonneg h0 (by grind)
  have k2 : 0 ≤ x * (e + d) := Rat.mul_nonneg h0 (by grind)
  have k3 : 0 ≤ (617/1000 - x) * e := Rat.mul_nonneg (by grind) he
  constructor <;> grind
/-- how close r is to S times p. -/
def Near (r : Int) (p e : Rat) : Prop := -e ≤ (r : Rat) - 2147483648 * p ∧ (r : Rat) - 2147483648 * p ≤ e
theorem mul31_r (x y : Int) : (mul31 x y : Rat) * 2147483648 ≤ (x : Rat) * y + 1073741824 ∧ (x : Rat) * y - 1073741824 ≤ (mul31 x y : Rat) * 2147483648 := by
  have h1 : mul31 x y * 2147483648 ≤ x * y + 1073741824 := by unfold mul31; generalize x * y = P; omega
  have h2 : x * y - 1073741824 ≤ mul31 x y * 2147483648 := by unfold mul31; generalize x * y = P; omega
  have k1 := rle h1
  have k2 := rle h2
  simp only [Rat.intCast_mul, Rat.intCast_add, Rat.intCast_sub, Rat.intCast_ofNat] at k1 k2
  exact ⟨k1, k2⟩
/-- one division of the series. -/
theorem sdv_r {n : Int} (hn : n = 110 ∨ n = 72 ∨ n = 42 ∨ n = 20 ∨ n = 6 ∨ n = 90 ∨ n = 56 ∨ n = 30 ∨ n = 12 ∨ n = 2) (m : Int) :
    (n : Rat) * sdv m n ≤ (m : Rat) + n / 2 ∧ (m : Rat) - n / 2 ≤ (n : Rat) * sdv m n := by
  have h1 : 2 * (n * sdv m n) ≤ 2 * m + n := by
    rcases hn with rfl | rfl | rfl | rfl | rfl | rfl | rfl | rfl | rfl | rfl <;> (unfold sdv; omega)
  have h2 : 2 * m - n ≤ 2 * (n * sdv m n) := by
    rcases hn with rfl | rfl | rfl | rfl | rfl | rfl | rfl | rfl | rfl | rfl <;> (unfold sdv; omega)
  have k1 := rle h1
  have k2 := rle h2
  simp only [Rat.intCast_mul, Rat.intCast_add, Rat.intCast_sub, Rat.intCast_ofNat] at k1 k2
  constructor <;> grind
/-- one step of the series keeps close. -/
theorem near_nx {n u r : Int} {x p e : Rat} (N : Rat) (hN : (n : Rat) = N) (hn : n = 110 ∨ n = 72 ∨ n = 42 ∨ n = 20 ∨ n = 6 ∨ n = 90 ∨ n = 56 ∨ n = 30 ∨ n = 12 ∨ n = 2) (hx0 : 0 ≤ x) (hx1 : x ≤ 617/1000) (hx : (u : Rat) = 2147483648 * x) (h : Near r p e) :
    -(617/1000 * e + 1/2 + N / 2) ≤ N * ((nx u r n : Int) : Rat) - 2147483648 * (N - x * p) ∧ N * ((nx u r n : Int) : Rat) - 2147483648 * (N - x * p) ≤ 617/1000 * e + 1/2 + N / 2 := by
  have ⟨a1, a2⟩ := mul31_r u r
  have ⟨b1, b2⟩ := sdv_r hn (mul31 u r)
  have ⟨c1, c2⟩ := xd_b hx0 hx1 h.1 h.2
  have e0 : ((nx u r n : Int) : Rat) = 2147483648 - sdv (mul31 u r) n := by unfold nx; simp only [Rat.intCast_sub, Rat.intCast_ofNat]
  have e1 : (u : Rat) * r = 2147483648 * (2147483648 * (x * p)) + 2147483648 * (x * ((r : Rat) - 2147483648 * p)) := by rw [hx]; grind
  rw [e0]
  rw [e1] at a1 a2
  rw [hN] at b1 b2
  generalize x * ((r : Rat) - 2147483648 * p) = D at *
  generalize x * p = Q at *
  generalize ((mul31 u r : Int) : Rat) = m at *
  generalize ((sdv (mul31 u r) n : Int) : Rat) = q at *
  have e2 : N * (2147483648 - q) = N * 2147483648 - N * q := by grind
  rw [e2]
  generalize N * q = Z at *
  constructor <;> grind
theorem near_mono {r : Int} {p e e' : Rat} (h : Near r p e) (he : e ≤ e') : Near r p e' := ⟨by have := h.1; grind, by have := h.2; grind⟩
section
variable {u r : Int} {x p e : Rat}
theorem near_72 (hx0 : 0 ≤ x) (hx1 : x ≤ 617/1000) (hx : (u : Rat) = 2147483648 * x) (h : Near r p e) : Near (nx u r 72) (1 - x * p / 72) (617/1000 * e / 72 + 1/144 + 1/2) := by
  have ⟨a, b⟩ := near_nx (n := 72) 72 rfl (by simp) hx0 hx1 hx h
  constructor <;> grind
theorem near_42 (hx0 : 0 ≤ x) (hx1 : x ≤ 617/1000) (hx : (u : Rat) = 2147483648 * x) (h : Near r p e) : Near (nx u r 42) (1 - x * p / 42) (617/1000 * e / 42 + 1/84 + 1/2) := by
  have ⟨a, b⟩ := near_nx (n := 42) 42 rfl (by simp) hx0 hx1 hx h
  constructor <;> grind
theorem near_20 (hx0 : 0 ≤ x) (hx1 : x ≤ 617/1000) (hx : (u : Rat) = 2147483648 * x) (h : Near r p e) : Near (nx u r 20) (1 - x * p / 20) (617/1000 * e / 20 + 1/40 + 1/2) := by
  have ⟨a, b⟩ := near_nx (n := 20) 20 rfl (by simp) hx0 hx1 hx h
  constructor <;> grind
theorem near_6 (hx0 : 0 ≤ x) (hx1 : x ≤ 617/1000) (hx : (u : Rat) = 2147483648 * x) (h : Near r p e) : Near (nx u r 6) (1 - x * p / 6) (617/1000 * e / 6 + 1/12 + 1/2) := by
  have ⟨a, b⟩ := near_nx (n := 6) 6 rfl (by simp) hx0 hx1 hx h
  constructor <;> grind
theorem near_56 (hx0 : 0 ≤ x) (hx1 : x ≤ 617/1000) (hx : (u : Rat) = 2147483648 * x) (h : Near r p e) : Near (nx u r 56) (1 - x * p / 56) (617/1000 * e / 56 + 1/112 + 1/2) := by
  have ⟨a, b⟩ := near_nx (n := 56) 56 rfl (by simp) hx0 hx1 hx h
  constructor <;> grind
theorem near_30 (hx0 : 0 ≤ x) (hx1 : x ≤ 617/1000) (hx : (u : Rat) = 2147483648 * x) (h : Near r p e) : Near (nx u r 30) (1 - x * p / 30) (617/1000 * e / 30 + 1/60 + 1/2) := by
  have ⟨a, b⟩ := near_nx (n := 30) 30 rfl (by simp) hx0 hx1 hx h
  constructor <;> grind
theorem near_12 (hx0 : 0 ≤ x) (hx1 : x ≤ 617/1000) (hx : (u : Rat) = 2147483648 * x) (h : Near r p e) : Near (nx u r 12) (1 - x * p / 12) (617/1000 * e / 12 + 1/24 + 1/2) := by
  have ⟨a, b⟩ := near_nx (n := 12) 12 rfl (by simp) hx0 hx1 hx h
  constructor <;> grind
theorem near_2 (hx0 : 0 ≤ x) (hx1 : x ≤ 617/1000) (hx : (u : Rat) = 2147483648 * x) (h : Near r p e) : Near (nx u r 2) (1 - x * p / 2) (617/1000 * e / 2 + 1/4 + 1/2) := by
  have ⟨a, b⟩ := near_nx (n := 2) 2 rfl (by simp) hx0 hx1 hx h
  constructor <;> grind
theorem near_first {n : Int} (N : Rat) (hN : (n : Rat) = N) (hn : n = 110 ∨ n = 90) (hx : (u : Rat) = 2147483648 * x) : Near (2147483648 - sdv u n) (1 - x / N) (1/2) := by
  have ⟨a, b⟩ := sdv_r (n := n) (by rcases hn with rfl | rfl <;> simp) u
  rw [hN] at a b
  rcases hn with rfl | rfl
  · have : N = 110 := hN.symm.trans rfl
    subst this
    constructor <;> simp only [Rat.intCast_sub, Rat.intCast_ofNat] <;> grind
  · have : N = 90 := hN.symm.trans rfl
    subst this
    constructor <;> simp only [Rat.intCast_sub, Rat.intCast_ofNat] <;> grind
end
/-- the two series as polynomials. -/
def Ps (x : Rat) : Rat := 1 - x * (1 - x * (1 - x * (1 - x * (1 - x / 110) / 72) / 42) / 20) / 6
def Pc (x : Rat) : Rat := 1 - x * (1 - x * (1 - x * (1 - x * (1 - x / 90) / 56) / 30) / 12) / 2
theorem near_rs {u : Int} {x : Rat} (hx0 : 0 ≤ x) (hx1 : x ≤ 617/1000) (hx : (u : Rat) = 2147483648 * x) : Near (rs u) (Ps x) (64/100) := by
  unfold rs Ps
  have h0 := near_first (u := u) (n := 110) 110 rfl (by simp) hx
  have h1 := near_mono (near_72 hx0 hx1 hx h0) (e' := 512/1000) (by grind)
  have h2 := near_mono (near_42 hx0 hx1 hx h1) (e' := 52/100) (by grind)
  have h3 := near_mono (near_20 hx0 hx1 hx h2) (e' := 542/1000) (by grind)
  exact near_mono (near_6 hx0 hx1 hx h3) (by grind)
theorem near_rc {u : Int} {x : Rat} (hx0 : 0 ≤ x) (hx1 : x ≤ 617/1000) (hx : (u : Rat) = 2147483648 * x) : Near (rc u) (Pc x) (93/100) := by
  unfold rc Pc
  have h0 := near_first (u := u) (n := 90) 90 rfl (by simp) hx
  have h1 := near_mono (near_56 hx0 hx1 hx h0) (e' := 515/1000) (by grind)
  have h2 := near_mono (near_30 hx0 hx1 hx h1) (e' := 528/1000) (by grind)
  have h3 := near_mono (near_12 hx0 hx1 hx h2) (e' := 57/100) (by grind)
  exact near_mono (near_2 hx0 hx1 hx h3) (by grind)
theorem xp_b {x p : Rat} (h0 : 0 ≤ x) (h1 : x ≤ 617/1000) (h2 : 0 ≤ p) (h3 : p ≤ 1) : 0 ≤ x * p ∧ x * p ≤ 617/1000 := by
  have k1 : 0 ≤ x * p := Rat.mul_nonneg h0 h2
  have k2 : 0 ≤ x * (1 - p) := Rat.mul_nonneg h0 (by grind)
  constructor <;> grind
theorem Ps_b {x : Rat} (h0 : 0 ≤ x) (h1 : x ≤ 617/1000) : 89/100 ≤ Ps x ∧ Ps x ≤ 1 := by
  have a1 : 0 ≤ 1 - x / 110 ∧ 1 - x / 110 ≤ 1 := by constructor <;> grind
  have a2 := xp_b h0 h1 a1.1 a1.2
  have b1 : 0 ≤ 1 - x * (1 - x / 110) / 72 ∧ 1 - x * (1 - x / 110) / 72 ≤ 1 := by constructor <;> grind
  have b2 := xp_b h0 h1 b1.1 b1.2
  have c1 : 0 ≤ 1 - x * (1 - x * (1 - x / 110) / 72) / 42 ∧ 1 - x * (1 - x * (1 - x / 110) / 72) / 42 ≤ 1 := by
    generalize x * (1 - x * (1 - x / 110) / 72) = Q at *
    constructor <;> grind
  have c2 := xp_b h0 h1 c1.1 c1.2
  have d1 : 0 ≤ 1 - x * (1 - x * (1 - x * (1 - x / 110) / 72) / 42) / 20 ∧ 1 - x * (1 - x * (1 - x * (1 - x / 110) / 72) / 42) / 20 ≤ 1 := by
    generalize x * (1 - x * (1 - x * (1 - x / 110) / 72) / 42) = Q at *
    constructor <;> grind
  have d2 := xp_b h0 h1 d1.1 d1.2
  unfold Ps
  generalize x * (1 - x * (1 - x * (1 - x * (1 - x / 110) / 72) / 42) / 20) = Q at *
  constructor <;> grind
theorem Pc_b {x : Rat} (h0 : 0 ≤ x) (h1 : x ≤ 617/1000) : 69/100 ≤ Pc x ∧ Pc x ≤ 1 := by
  have a1 : 0 ≤ 1 - x / 90 ∧ 1 - x / 90 ≤ 1 := by constructor <;> grind
  have a2 := xp_b h0 h1 a1.1 a1.2
  have b1 : 0 ≤ 1 - x * (1 - x / 90) / 56 ∧ 1 - x * (1 - x / 90) / 56 ≤ 1 := by constructor <;> grind
  have b2 := xp_b h0 h1 b1.1 b1.2
  have c1 : 0 ≤ 1 - x * (1 - x * (1 - x / 90) / 56) / 30 ∧ 1 - x * (1 - x * (1 - x / 90) / 56) / 30 ≤ 1 := by
    generalize x * (1 - x * (1 - x / 90) / 56) = Q at *
    constructor <;> grind
  have c2 := xp_b h0 h1 c1.1 c1.2
  have d1 : 0 ≤ 1 - x * (1 - x * (1 - x * (1 - x / 90) / 56) / 30) / 12 ∧ 1 - x * (1 - x * (1 - x * (1 - x / 90) / 56) / 30) / 12 ≤ 1 := by
    generalize x * (1 - x * (1 - x * (1 - x / 90) / 56) / 30) = Q at *
    constructor <;> grind
  have d2 := xp_b h0 h1 d1.1 d1.2
  unfold Pc
  generalize x * (1 - x * (1 - x * (1 - x * (1 - x / 90) / 56) / 30) / 12) = Q at *
  constructor <;> grind
theorem PsPc (x : Rat) : x * (Ps x * Ps x) + Pc x * Pc x - 1 = x*x*x*x*x*x*(-1/239500800+ x*(1/558835200 + x*(-1/7664025600+x*(1/258660864000 + x*(-1/16094453760000+ x/1593350922240000))))) := by
  unfold Ps Pc; grind
theorem tiny_b {x : Rat} (h0 : 0 ≤ x) (h1 : x ≤ 617/1000) : -(4/10000000000) ≤ x * (Ps x * Ps x) + Pc x * Pc x - 1 ∧ x * (Ps x * Ps x) + Pc x * Pc x - 1 ≤ 4/10000000000 := by
  rw [PsPc]
  have k2 : 0 ≤ (617/1000 - x) * x := Rat.mul_nonneg (by grind) h0
  have n2 : 0 ≤ x * x := Rat.mul_nonneg h0 h0
  have u2 : x * x ≤ 3807/10000 := by grind
  have k3 : 0 ≤ (617/1000 - x) * (x * x) := Rat.mul_nonneg (by grind) n2
  have n3 : 0 ≤ x * x * x := Rat.mul_nonneg n2 h0
  have u3 : x * x * x ≤ 2349/10000 := by grind
  have k6 : 0 ≤ (2349/10000 - x * x * x) * (x * x * x) := Rat.mul_nonneg (by grind) n3
  have n6 : 0 ≤ (x * x * x) * (x * x * x) := Rat.mul_nonneg n3 n3
  have u6 : (x * x * x) * (x * x * x) ≤ 552/10000 := by grind
  have e1 : -(1/100000000000) ≤ -1/16094453760000+ x/1593350922240000 ∧ -1/16094453760000+ x/1593350922240000 ≤ 1/100000000000 := by constructor <;> grind
  have e2 := xd_b h0 h1 e1.1 e1.2
  have e3 : -(1/10000000000) ≤ 1/258660864000 + x*(-1/16094453760000+ x/1593350922240000) ∧ 1/258660864000 + x*(-1/16094453760000+ x/1593350922240000) ≤ 1/10000000000 := by
    generalize x*(-1/16094453760000+ x/1593350922240000) = Q at *
    constructor <;> grind
  have e4 := xd_b h0 h1 e3.1 e3.2
  have e5 : -(2/10000000000) ≤ -1/7664025600+x*(1/258660864000 + x*(-1/16094453760000+ x/1593350922240000)) ∧ -1/7664025600+x*(1/258660864000 + x*(-1/16094453760000+ x/1593350922240000)) ≤ 2/10000000000 := by
    generalize x*(1/258660864000 + x*(-1/16094453760000+ x/1593350922240000)) = Q at *
    constructor <;> grind
  have e6 := xd_b h0 h1 e5.1 e5.2
  have e7 : -(20/10000000000) ≤ 1/558835200 + x*(-1/7664025600+x*(1/258660864000 + x*(-1/16094453760000+ x/1593350922240000))) ∧ 1/558835200 + x*(-1/7664025600+x*(1/258660864000 + x*(-1/16094453760000+ x/1593350922240000))) ≤ 20/10000000000 := by
    generalize x*(-1/7664025600+x*(1/258660864000 + x*(-1/16094453760000+ x/1593350922240000))) = Q at *
    constructor <;> grind
  have e8 := xd_b h0 h1 e7.1 e7.2
  have e9 : -(60/10000000000) ≤ -1/239500800+ x*(1/558835200 + x*(-1/7664025600+x*(1/258660864000 + x*(-1/16094453760000+ x/1593350922240000)))) ∧ -1/239500800+ x*(1/558835200 + x*(-1/7664025600+x*(1/258660864000 + x*(-1/16094453760000+ x/1593350922240000)))) ≤ 60/10000000000 := by
    generalize x*(1/558835200 + x*(-1/7664025600+x*(1/258660864000 + x*(-1/16094453760000+ x/1593350922240000)))) = Q at *
    constructor <;> grind
  have e10 := xd_b (x := (x * x * x) * (x * x * x)) n6 (by grind) e9.1 e9.2
  have eq : x*x*x*x*x*x = (x * x * x) * (x * x * x) := by grind
  rw [eq]
  generalize -1/239500800+ x*(1/558835200 + x*(-1/7664025600+x*(1/258660864000 + x*(-1/16094453760000+ x/1593350922240000)))) = K at *
  generalize (x * x * x) * (x * x * x) = X at *
  have m1 : 0 ≤ (552/10000 - X) * (60/10000000000 - K) := Rat.mul_nonneg (by grind) (by grind)
  have m2 : 0 ≤ (552/10000 - X) * (60/10000000000 + K) := Rat.mul_nonneg (by grind) (by grind)
  have m3 : 0 ≤ X * (60/10000000000 - K) := Rat.mul_nonneg n6 (by grind)
  have m4 : 0 ≤ X * (60/10000000000 + K) := Rat.mul_nonneg n6 (by grind)
  constructor <;> grind
theorem ab_b {A d M lo hi : Rat} (h0 : 0 ≤ A) (h1 : A ≤ M) (h2 : lo ≤ d) (h3 : d ≤ hi) (h4 : lo ≤ 0) (h5 : 0 ≤ hi) : M * lo ≤ A * d ∧ A * d ≤ M * hi := by
  have k1 : 0 ≤ A * (hi - d) := Rat.mul_nonneg h0 (by grind)
  have k2 : 0 ≤ A * (d - lo) := Rat.mul_nonneg h0 (by grind)
  have k3 : 0 ≤ (M - A) * hi := Rat.mul_nonneg (by grind) h5
  have k4 : 0 ≤ (M - A) * (-lo) := Rat.mul_nonneg (by grind) (by grind)
  constructor <;> grind
/-- the sine series against its polynomial. -/
theorem sine_near {T R m s p : Rat} (T0 : 0 ≤ T) (T1 : T ≤ 1686629713) (n1 : -(64/100) ≤ R - 2147483648 * p) (n2 : R - 2147483648 * p ≤ 64/100)
    (a1 : m * 2147483648 ≤ T * R + 1073741824) (a2 : T * R - 1073741824 ≤ m * 2147483648) (b1 : 2 * s ≤ m + 1) (b2 : m ≤ 2 * s) : -(101/100) ≤ 2 * s - T * p ∧ 2 * s - T * p ≤ 201/100 := by
  have ⟨k1, k2⟩ := ab_b (M := 1686629713) T0 T1 n1 n2 (by grind) (by grind)
  have e : T * R = 2147483648 * (T * p) + T * (R - 2147483648 * p) := by grind
  rw [e] at a1 a2
  generalize T * (R - 2147483648 * p) = D at *
  generalize T * p = A at *
  constructor <;> grind
/-- the squares of the two series. -/
theorem squares {a : Int} (h0 : 0 ≤ a) (h1 : a ≤ 16200000) : -5368709120 ≤ sine a * sine a + cosine a * cosine a - 1152921504606846976 ∧ sine a * sine a + cosine a * cosine a - 1152921504606846976 ≤ 5368709120 := by
  have ⟨t0, t1⟩ := tq_b h0 h1
  have ⟨u0, u1⟩ := uq_b h0 h1
  obtain ⟨x, hx⟩ : ∃ x : Rat, ((uq a : Int) : Rat) = 2147483648 * x := ⟨((uq a : Int) : Rat) / 2147483648, by grind⟩
  have x0 : 0 ≤ x := by have := rle u0; rw [hx] at this; grind
  have x1 : x ≤ 617/1000 := by have := rle u1; rw [hx] at this; grind
  have ns := near_rs x0 x1 hx
  have nc := near_rc x0 x1 hx
  have ps := Ps_b x0 x1
  have pc := Pc_b x0 x1
  have ty := tiny_b x0 x1
  have mt := mul31_r (tq a) (tq a)
  have ms := mul31_r (tq a) (rs (uq a))
  have es : 2 * sine a ≤ mul31 (tq a) (rs (uq a)) + 1 ∧ mul31 (tq a) (rs (uq a)) ≤ 2 * sine a := by unfold sine; omega
  have ec : 2 * cosine a ≤ rc (uq a) + 1 ∧ rc (uq a) ≤ 2 * cosine a := by unfold cosine; omega
  have s1 := rle es.1
  have s2 := rle es.2
  have c1 := rle ec.1
  have c2 := rle ec.2
  have T0 := rle t0
  have T1 := rle t1
  have hu : ((mul31 (tq a) (tq a) : Int) : Rat) = 2147483648 * x := hx
  have g : ∀ z : Int, (-5368709120 : Rat) ≤ (z : Rat) → (z : Rat) ≤ 5368709120 → -5368709120 ≤ z ∧ z ≤ 5368709120 := fun z h1 h2 => by
    have e1 : (((-5368709120 : Int)) : Rat) ≤ (z : Rat) := by simpa using h1
    have e2 : (z : Rat) ≤ ((5368709120 : Int) : Rat) := by simpa using h2
    exact ⟨Rat.intCast_le_intCast.1 e1, Rat.intCast_le_intCast.1 e2⟩
  simp only [Rat.intCast_mul, Rat.intCast_add, Rat.intCast_ofNat] at s1 s2 c1 c2 T0 T1
  have key := g (sine a * sine a + cosine a * cosine a - 1152921504606846976)
  simp only [Rat.intCast_mul, Rat.intCast_add, Rat.intCast_sub, Rat.intCast_ofNat] at key
  obtain ⟨ns1, ns2⟩ := ns
  obtain ⟨nc1, nc2⟩ := nc
  rw [hu] at mt
  generalize ((sine a : Int) : Rat) = s at *
  generalize ((cosine a : Int) : Rat) = c at *
  generalize ((mul31 (tq a) (rs (uq a)) : Int) : Rat) = m at *
  generalize ((rs (uq a) : Int) : Rat) = R at *
  generalize ((rc (uq a) : Int) : Rat) = C at *
  generalize ((tq a : Int) : Rat) = T at *
  have ⟨al1, al2⟩ := sine_near T0 T1 ns1 ns2 ms.1 ms.2 s1 s2
  generalize Ps x = p at *
  generalize Pc x = q at *
  clear ns1 ns2 ms s1 s2 hu hx
  have be1 : -(93/100) ≤ 2 * c - 2147483648 * q := by grind
  have be2 : 2 * c - 2147483648 * q ≤ 193/100 := by grind
  have p0 : 0 ≤ p := by grind
  have A0 : 0 ≤ T * p := Rat.mul_nonneg T0 p0
  have A1 : T * p ≤ 1686629713 := by
    have : 0 ≤ T * (1 - p) := Rat.mul_nonneg T0 (by grind)
    grind
  have ⟨f1, f2⟩ := ab_b (M := 1686629713) A0 A1 al1 al2 (by grind) (by grind)
  have ⟨g1, g2⟩ := ab_b (A := 2147483648 * q) (M := 2147483648) (by grind) (by grind) be1 be2 (by grind) (by grind)
  have ⟨h1, h2⟩ := ab_b (A := p * p) (d := T * T - 2147483648 * 2147483648 * x) (M := 1) (lo := -1073741824) (hi := 1073741824) (Rat.mul_nonneg p0 p0) (by have := ab_b (A := p) (d := p) (M := 1) (lo := 0) (hi := 1) p0 (by grind) p0 (by grind) (by grind) (by grind); grind) (by grind) (by grind) (by grind) (by grind)
  have sa : 0 ≤ (2 * s - T * p) * (2 * s - T * p) ∧ (2 * s - T * p) * (2 * s - T * p) ≤ 5 := by
    generalize 2 * s - T * p = d at *
    have k1 : 0 ≤ (201/100 - d) * (d + 101/100) := Rat.mul_nonneg (by grind) (by grind)
    have k2 : 0 ≤ d * d := by
      by_cases h : 0 ≤ d
      · exact Rat.mul_nonneg h h
      · have := Rat.mul_nonneg (a := -d) (b := -d) (by grind) (by grind)
        grind
    constructor <;> grind
  have sb : 0 ≤ (2 * c - 2147483648 * q) * (2 * c - 2147483648 * q) ∧ (2 * c - 2147483648 * q) * (2 * c - 2147483648 * q) ≤ 5 := by
    generalize 2 * c - 2147483648 * q = d at *
    have k1 : 0 ≤ (193/100 - d) * (d + 93/100) := Rat.mul_nonneg (by grind) (by grind)
    have k2 : 0 ≤ d * d := by
      by_cases h : 0 ≤ d
      · exact Rat.mul_nonneg h h
      · have := Rat.mul_nonneg (a := -d) (b := -d) (by grind) (by grind)
        grind
    constructor <;> grind
  have eq : 4 * (s * s + c * c) = 2147483648 * 2147483648 * (x * (p * p) + q * q - 1) + 2147483648 * 2147483648 + (p * p) * (T * T - 2147483648 * 2147483648 * x) + 2 * (T * p * (2 * s - T * p)) + (2 * s - T * p) * (2 * s - T * p) + 2 * (2147483648 * q * (2 * c - 2147483648 * q)) + (2 * c - 2147483648 * q) * (2 * c - 2147483648 * q) := by grind
  generalize x * (p * p) + q * q - 1 = tau at *
  generalize (p * p) * (T * T - 2147483648 * 2147483648 * x) = X1 at *
  generalize T * p * (2 * s - T * p) = X2 at *
  generalize (2 * s - T * p) * (2 * s - T * p) = X3 at *
  generalize 2147483648 * q * (2 * c - 2147483648 * q) = X4 at *
  generalize (2 * c - 2147483648 * q) * (2 * c - 2147483648 * q) = X5 at *
  generalize s * s = ss at *
  generalize c * c = cc at *
  exact key (by grind) (by grind)
end Fdk
