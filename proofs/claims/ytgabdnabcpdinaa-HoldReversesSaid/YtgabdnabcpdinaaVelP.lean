/- Plain facts: a vector near a speed times sine and cosine has nearly that length and that direction. No program in sight. -/
import Derived.Test.YtgabdnabcpdinaaTrigP4
import Derived.Test.YtgabdnabcpdinaaTrigP6
namespace Fdk
set_option linter.unusedVariables false
/-- E is s * v / 2^30 rounded. -/
def Rd (E s v : Int) : Prop := 2 * (s * v) - 1073741824 ≤ 2147483648 * E ∧ 2147483648 * E ≤ 2 * (s * v) + 1073741824
theorem absum {a b : Int} (h : SqOk a b) (ha : 0 ≤ a) (hb : 0 ≤ b) : a + b ≤ 1610612736 := by
  refine Classical.byContradiction fun hc => ?_
  have h1 : 1610612737 * 1610612737 ≤ (a + b) * (a + b) := Int.mul_le_mul (by omega) (by omega) (by omega) (by omega)
  have h2 : 0 ≤ (a - b) * (a - b) := by rcases Int.le_total 0 (a - b) with k | k; exact Int.mul_nonneg k k; exact Int.mul_nonneg_of_nonpos_of_nonpos k k
  have h3 : (a + b) * (a + b) + (a - b) * (a - b) = 2 * (a * a + b * b) := by grind
  have := h.2
  generalize (a + b) * (a + b) = p at *
  generalize (a - b) * (a - b) = q at *
  generalize a * a = x at *
  generalize b * b = y at *
  omega
theorem mul_ab {a e M : Int} (h0 : -M ≤ e) (h1 : e ≤ M) (hM : 0 ≤ M) : -(iabs a * M) ≤ a * e ∧ a * e ≤ iabs a * M := by
  unfold iabs
  split
  · have k1 : -a * e ≤ -a * M := Int.mul_le_mul_of_nonneg_left h1 (by omega)
    have k2 : -a * -M ≤ -a * e := Int.mul_le_mul_of_nonneg_left h0 (by omega)
    grind
  · have k1 : a * e ≤ a * M := Int.mul_le_mul_of_nonneg_left h1 (by omega)
    have k2 : a * -M ≤ a * e := Int.mul_le_mul_of_nonneg_left h0 (by omega)
    grind
theorem grid : ∀ j : Fin 185, 14411518807585588 ≤ sn (((j.val : Int) + 4) * 90000) * cn (((j.val : Int) + 1) * 90000) - cn (((j.val : Int) + 4) * 90000) * sn (((j.val : Int) + 1) * 90000) := by decide +kernel
theorem sn_nn {a : Int} (h0 : 0 ≤ a) (h1 : a ≤ 32400000) : 0 ≤ sn a := by
  have := sn_mono (a := 0) (b := a) (by omega) h0 h1
  rw [sn_0] at this; exact this
theorem cn_nn {a : Int} (h0 : 0 ≤ a) (h1 : a ≤ 32400000) : 0 ≤ cn a := by rw [← sn_q]; exact sn_nn (by omega) (by omega)
/-- one degree on, the cross product is large. -/
theorem deg_cross {b : Int} (h0 : 0 ≤ b) (h1 : b ≤ 16560000) : 14411518807585588 ≤ sn (b + 360000) * cn b - cn (b + 360000) * sn b := by
  have hj : (b / 90000).toNat < 185 := by omega
  have g := grid ⟨(b / 90000).toNat, hj⟩
  have ej : (((⟨(b / 90000).toNat, hj⟩ : Fin 185).val : Nat) : Int) = b / 90000 := by show (((b / 90000).toNat : Nat) : Int) = _; omega
  rw [ej] at g
  generalize hk : b / 90000 = j at *
  have s1 := sn_mono (a := (j + 4) * 90000) (b := b + 360000) (by omega) (by omega) (by omega)
  have s2 := sn_mono (a := b) (b := (j + 1) * 90000) (by omega) (by omega) (by omega)
  have c1 := cn_mono (a := (j + 4) * 90000) (b := b + 360000) (by omega) (by omega) (by omega)
  have c2 := cn_mono (a := b) (b := (j + 1) * 90000) (by omega) (by omega) (by omega)
  have p1 : sn ((j + 4) * 90000) * cn ((j + 1) * 90000) ≤ sn (b + 360000) * cn b := Int.mul_le_mul s1 c2 (cn_nn (by omega) (by omega)) (sn_nn (by omega) (by omega))
  have p2 : cn (b + 360000) * sn b ≤ cn ((j + 4) * 90000) * sn ((j + 1) * 90000) := Int.mul_le_mul c1 s2 (sn_nn (by omega) (by omega)) (cn_nn (by omega) (by omega))
  omega
theorem ata_near {s b m n : Int} (s0 : 100 ≤ s) (b0 : 0 ≤ b) (b1 : b ≤ 16560000) (hm : 0 ≤ m) (hn : 0 ≤ n) (rm : Rd m s (cn b)) (rn : Rd n s (sn b)) : b - 360000 ≤ ata m n ∧ ata m n ≤ b + 360000 := by
  have ha := ata_b m n
  constructor
  · refine Classical.byContradiction fun h => ?_
    have hc := ata_above (m := m) (n := n) (b - 360000) (by omega) (by omega)
    have D := deg_cross (b := b - 360000) (by omega) (by omega)
    rw [show b - 360000 + 360000 = b by omega] at D
    have u0 := sn_nn (a := b - 360000) (by omega) (by omega)
    have v0 := cn_nn (a := b - 360000) (by omega) (by omega)
    have u1 := (sn_b (b - 360000)).2
    have v1 := (cn_b (b - 360000)).2
    generalize sn (b - 360000) = u at *
    generalize cn (b - 360000) = v at *
    generalize sn b = x at *
    generalize cn b = y at *
    obtain ⟨m0, m1⟩ := rm
    obtain ⟨n0, n1⟩ := rn
    have k1 : u * (2147483648 * m) ≤ u * (2 * (s * y) + 1073741824) := Int.mul_le_mul_of_nonneg_left m1 u0
    have k2 : v * (2 * (s * x) - 1073741824) ≤ v * (2147483648 * n) := Int.mul_le_mul_of_nonneg_left n0 v0
    have k3 : s * 14411518807585588 ≤ s * (x * v - y * u) := Int.mul_le_mul_of_nonneg_left D (by omega)
    have e1 : u * (2147483648 * m) = 2147483648 * (u * m) := by grind
    have e2 : v * (2147483648 * n) = 2147483648 * (v * n) := by grind
    have e3 : u * (2 * (s * y) + 1073741824) = 2 * (s * (y * u)) + 1073741824 * u := by grind
    have e4 : v * (2 * (s * x) - 1073741824) = 2 * (s * (x * v)) - 1073741824 * v := by grind
    have e5 : s * (x * v - y * u) = s * (x * v) - s * (y * u) := by grind
    rw [e1, e3] at k1
    rw [e2, e4] at k2
    rw [e5] at k3
    generalize u * m = um at *
    generalize v * n = vn at *
    generalize s * (y * u) = A at *
    generalize s * (x * v) = B at *
    omega
  · refine Classical.byContradiction fun h => ?_
    have hc : sn (b + 360000) * m ≤ cn (b + 360000) * n := by
      have hok := okc_mono (m := m) (n := n) hm hn (b + 360000).toNat (ata m n).toNat (by omega) (by omega) (by
        simp only [okc, decide_eq_true_eq]
        rw [show (((ata m n).toNat : Nat) : Int) = ata m n by omega]
        exact ata_ok hn)
      simp only [okc, decide_eq_true_eq] at hok
      rw [show (((b + 360000).toNat : Nat) : Int) = b + 360000 by omega] at hok
      exact hok
    have D := deg_cross b0 b1
    have u0 := sn_nn (a := b + 360000) (by omega) (by omega)
    have v0 := cn_nn (a := b + 360000) (by omega) (by omega)
    have u1 := (sn_b (b + 360000)).2
    have v1 := (cn_b (b + 360000)).2
    generalize sn (b + 360000) = u at *
    generalize cn (b + 360000) = v at *
    generalize sn b = x at *
    generalize cn b = y at *
    obtain ⟨m0, m1⟩ := rm
    obtain ⟨n0, n1⟩ := rn
    have k1 : u * (2 * (s * y) - 1073741824) ≤ u * (2147483648 * m) := Int.mul_le_mul_of_nonneg_left m0 u0
    have k2 : v * (2147483648 * n) ≤ v * (2 * (s * x) + 1073741824) := Int.mul_le_mul_of_nonneg_left n1 v0
    have k3 : s * 14411518807585588 ≤ s * (u * y - v * x) := Int.mul_le_mul_of_nonneg_left D (by omega)
    have e1 : u * (2147483648 * m) = 2147483648 * (u * m) := by grind
    have e2 : v * (2147483648 * n) = 2147483648 * (v * n) := by grind
    have e3 : u * (2 * (s * y) - 1073741824) = 2 * (s * (u * y)) - 1073741824 * u := by grind
    have e4 : v * (2 * (s * x) + 1073741824) = 2 * (s * (v * x)) + 1073741824 * v := by grind
    have e5 : s * (u * y - v * x) = s * (u * y) - s * (v * x) := by grind
    rw [e1, e3] at k1
    rw [e2, e4] at k2
    rw [e5] at k3
    generalize u * m = um at *
    generalize v * n = vn at *
    generalize s * (u * y) = A at *
    generalize s * (v * x) = B at *
    omega
theorem octant {a : Int} (h0 : 0 ≤ a) (h1 : a ≤ 15840000) : sn a + 21474837 ≤ cn a := by
  have k1 := sn_mono (a := a) (b := 15840000) (by omega) h1 (by omega)
  have k2 := cn_mono (a := a) (b := 15840000) h0 h1 (by omega)
  have k3 : sn 15840000 + 21474837 ≤ cn 15840000 := by unfold cn sn; decide +kernel
  omega
theorem rd_neg {E s v : Int} (h : Rd E s v) : Rd (-E) s (-v) := by
  obtain ⟨h0, h1⟩ := h
  have : s * -v = -(s * v) := by grind
  unfold Rd
  rw [this]
  omega
theorem rd_nn {E s v : Int} (h : Rd E s v) (s0 : 0 ≤ s) (hv : 0 ≤ v) : 0 ≤ E := by
  have := Int.mul_nonneg s0 hv
  obtain ⟨h0, h1⟩ := h
  omega
theorem ata_0 {m : Int} (hm : 0 < m) : ata m 0 = 0 := by
  refine ata_eq (by omega) (by omega) 0 (by omega) (by omega) (by rw [sn_0]; omega) (fun _ h => ?_)
  have := sn_rise (a := 0) (b := 1) (by omega) (by omega) (by omega)
  rw [sn_0] at this
  have k : 0 < sn (0 + 1) * m := Int.mul_pos (by show 0 < sn 1; omega) hm
  omega
theorem atq_y0 {x : Int} (hx : 0 < x) : atq 0 x = 0 := by
  have ix : iabs x = x := by unfold iabs; rw [if_neg (by omega)]
  have i0 : iabs 0 = 0 := by decide
  unfold atq
  rw [ix, i0, if_neg (by omega), show max x 0 = x by omega, show min x 0 = 0 by omega, ata_0 hx]
end Fdk
