/- Plain facts: a vector near a speed times sine and cosine has nearly that length and that direction. No program in sight. -/
import Derived.Test.YtpgpdglmgpjhlaaTrigP4
import Derived.Test.YtpgpdglmgpjhlaaTrigP6
namespace Fdk
set_option linter.unusedVariables false
/-- E is s * v / 2^30 rounded. -/
def Rd (E s v : Int) : Prop := 2 * (s * v) - 1073741824 ≤ 2147483648 * E ∧ 2147483648 * E ≤ 2 * (s * v) + 1073741824
theorem absum {a b : Int} (h : SqOk a b) (ha : 0 ≤ a) (hb : 0 ≤ b) : a + b ≤ 1610612736 := by
  refine Classical.byContradiction fun hc => ?_
  have h1 : 1610612737 * 1610612737 ≤ (a + b) * (a + b) := Int.mul_le_mul (by omega) (by omega) (by omega) (by omega)
  have h2 : 0 ≤ (a - b) * (a - b) := by rcases Int.le_total 0 (a - b) with k | k; exact Int.mul_nonneg k k; exact Int.mul_nonneg_of_nonpos_of_nonpos k k
  have h3 : (a + b) * (a + b) + (a - b) * (a - b) = 2 * (a * a + b * b) := by grind
  have := h.2
  generalize (a + b) * (a + b) = p at *
  generalize (a - b) * (a - b) = q at *
  generalize a * a = x at *
  generalize b * b = y at *
  omega
theorem absum2 (t : Int) : iabs (sn t) + iabs (cn t) ≤ 1610612736 := by
  have h := sq_all t
  refine absum ?_ (iabs_nn _) (iabs_nn _)
  unfold iabs
  split <;> split
  · exact sqok_neg1 (sqok_neg2 h)
  · exact sqok_neg1 h
  · exact sqok_neg2 h
  · exact h
theorem mul_ab {a e M : Int} (h0 : -M ≤ e) (h1 : e ≤ M) (hM : 0 ≤ M) : -(iabs a * M) ≤ a * e ∧ a * e ≤ iabs a * M := by
  unfold iabs
  split
  · have k1 : -a * e ≤ -a * M := Int.mul_le_mul_of_nonneg_left h1 (by omega)
    have k2 : -a * -M ≤ -a * e := Int.mul_le_mul_of_nonneg_left h0 (by omega)
    grind
  · have k1 : a * e ≤ a * M := Int.mul_le_mul_of_nonneg_left h1 (by omega)
    have k2 : a * -M ≤ a * e := Int.mul_le_mul_of_nonneg_left h0 (by omega)
    grind
theorem len_near {s t E N : Int} (s0 : 100 ≤ s) (s1 : s ≤ 2000) (hE : Rd E s (sn t)) (hN : Rd N s (cn t)) :
    (s - 1) * (s - 1) ≤ E * E + N * N ∧ E * E + N * N < (s + 1) * (s + 1) := by
  have hq := sq_all t
  have hs := absum2 t
  generalize sn t = a at *
  generalize cn t = b at *
  obtain ⟨e0, e1⟩ := hE
  obtain ⟨f0, f1⟩ := hN
  -- twice the errors
  have de : ∃ e, 2147483648 * E = 2 * (s * a) + e ∧ -1073741824 ≤ e ∧ e ≤ 1073741824 := ⟨2147483648 * E - 2 * (s * a), by omega, by omega, by omega⟩
  have df : ∃ f, 2147483648 * N = 2 * (s * b) + f ∧ -1073741824 ≤ f ∧ f ≤ 1073741824 := ⟨2147483648 * N - 2 * (s * b), by omega, by omega, by omega⟩
  obtain ⟨e, he, e2, e3⟩ := de
  obtain ⟨f, hf, f2, f3⟩ := df
  have x1 := mul_ab (a := a) e2 e3 (by omega)
  have x2 := mul_ab (a := b) f2 f3 (by omega)
  have ia := iabs_nn a
  have ib := iabs_nn b
  have X : -1729382256910270464 ≤ a * e + b * f ∧ a * e + b * f ≤ 1729382256910270464 := by
    generalize iabs a = p at *
    generalize iabs b = q at *
    generalize a * e = y at *
    generalize b * f = z at *
    omega
  have ee : 0 ≤ e * e ∧ e * e ≤ 1152921504606846976 := by
    have := mul_ab (a := e) e2 e3 (by omega)
    have h2 : iabs e ≤ 1073741824 := by unfold iabs; split <;> omega
    have h3 : 0 ≤ e * e := by rcases Int.le_total 0 e with k | k; exact Int.mul_nonneg k k; exact Int.mul_nonneg_of_nonpos_of_nonpos k k
    generalize e * e = y at *
    omega
  have ff : 0 ≤ f * f ∧ f * f ≤ 1152921504606846976 := by
    have := mul_ab (a := f) f2 f3 (by omega)
    have h2 : iabs f ≤ 1073741824 := by unfold iabs; split <;> omega
    have h3 : 0 ≤ f * f := by rcases Int.le_total 0 f with k | k; exact Int.mul_nonneg k k; exact Int.mul_nonneg_of_nonpos_of_nonpos k k
    generalize f * f = y at *
    omega
  have key : 4611686018427387904 * (E * E + N * N) = 4 * (s * s * (a * a + b * b)) + 4 * (s * (a * e + b * f)) + (e * e + f * f) := by
    have k1 : (2147483648 * E) * (2147483648 * E) = (2 * (s * a) + e) * (2 * (s * a) + e) := by rw [he]
    have k2 : (2147483648 * N) * (2147483648 * N) = (2 * (s * b) + f) * (2 * (s * b) + f) := by rw [hf]
    grind
  have ss : 0 ≤ s * s := Int.mul_nonneg (by omega) (by omega)
  have ss1 : s * s ≤ 2000 * s := Int.mul_le_mul_of_nonneg_right s1 (by omega)
  have q0 := hq.1
  have q1 := hq.2
  generalize a * e + b * f = x at *
  generalize a * a + b * b = A at *
  have hA : ∃ d, A = 1152921504606846976 + d ∧ -5368709120 ≤ d ∧ d ≤ 5368709120 := ⟨A - 1152921504606846976, by omega, by omega, by omega⟩
  obtain ⟨d, rfl, d0, d1⟩ := hA
  have sd0 : s * s * -5368709120 ≤ s * s * d := Int.mul_le_mul_of_nonneg_left d0 ss
  have sd1 : s * s * d ≤ s * s * 5368709120 := Int.mul_le_mul_of_nonneg_left d1 ss
  have sx0 : s * -1729382256910270464 ≤ s * x := Int.mul_le_mul_of_nonneg_left X.1 (by omega)
  have sx1 : s * x ≤ s * 1729382256910270464 := Int.mul_le_mul_of_nonneg_left X.2 (by omega)
  rw [Int.mul_add (s * s)] at key
  have r1 : (s - 1) * (s - 1) = s * s - 2 * s + 1 := by grind
  have r2 : (s + 1) * (s + 1) = s * s + 2 * s + 1 := by grind
  rw [r1, r2]
  generalize s * s * d = sd at *
  generalize s * x = sx at *
  generalize s * s = q at *
  generalize E * E + N * N = Q at *
  generalize e * e = y at *
  generalize f * f = z at *
  omega
theorem hyp_near {s t E N : Int} (s0 : 100 ≤ s) (s1 : s ≤ 2000) (hE : Rd E s (sn t)) (hN : Rd N s (cn t)) (hq : E * E + N * N ≤ 9223372036854775807) :
    isq (E * E + N * N) - s ≤ 1 ∧ s - isq (E * E + N * N) ≤ 1 := by
  have ⟨l0, l1⟩ := len_near s0 s1 hE hN
  have n0 : 0 ≤ (s - 1) * (s - 1) := Int.mul_nonneg (by omega) (by omega)
  have ⟨i0, _, i1, i2⟩ := isq_ok (n := E * E + N * N) (by omega) hq
  generalize E * E + N * N = Q at *
  generalize isq Q = r at *
  constructor
  · refine Classical.byContradiction fun h => ?_
    have := sq_le (a := s + 1) (b := r) (by omega) (by omega)
    omega
  · refine Classical.byContradiction fun h => ?_
    have := sq_le (a := r + 1) (b := s - 1) (by omega) (by omega)
    omega
theorem grid : ∀ j : Fin 185, 14411518807585588 ≤ sn (((j.val : Int) + 4) * 90000) * cn (((j.val : Int) + 1) * 90000) - cn (((j.val : Int) + 4) * 90000) * sn (((j.val : Int) + 1) * 90000) := by decide +kernel
theorem sn_nn {a : Int} (h0 : 0 ≤ a) (h1 : a ≤ 32400000) : 0 ≤ sn a := by
  have := sn_mono (a := 0) (b := a) (by omega) h0 h1
  rw [sn_0] at this; exact this
theorem cn_nn {a : Int} (h0 : 0 ≤ a) (h1 : a ≤ 32400000) : 0 ≤ cn a := by rw [← sn_q]; exact sn_nn (by omega) (by omega)
/-- one degree on, the cross product is large. -/
theorem deg_cross {b : Int} (h0 : 0 ≤ b) (h1 : b ≤ 16560000) : 14411518807585588 ≤ sn (b + 360000) * cn b - cn (b + 360000) * sn b := by
  have hj : (b / 90000).toNat < 185 := by omega
  have g := grid ⟨(b / 90000).toNat, hj⟩
  have ej : (((⟨(b / 90000).toNat, hj⟩ : Fin 185).val : Nat) : Int) = b / 90000 := by show (((b / 90000).toNat : Nat) : Int) = _; omega
  rw [ej] at g
  generalize hk : b / 90000 = j at *
  have s1 := sn_mono (a := (j + 4) * 90000) (b := b + 360000) (by omega) (by omega) (by omega)
  have s2 := sn_mono (a := b) (b := (j + 1) * 90000) (by omega) (by omega) (by omega)
  have c1 := cn_mono (a := (j + 4) * 90000) (b := b + 360000) (by omega) (by omega) (by omega)
  have c2 := cn_mono (a := b) (b := (j + 1) * 90000) (by omega) (by omega) (by omega)
  have p1 : sn ((j + 4) * 90000) * cn ((j + 1) * 90000) ≤ sn (b + 360000) * cn b := Int.mul_le_mul s1 c2 (cn_nn (by omega) (by omega)) (sn_nn (by omega) (by omega))
  have p2 : cn (b + 360000) * sn b ≤ cn ((j + 4) * 90000) * sn ((j + 1) * 90000) := Int.mul_le_mul c1 s2 (sn_nn (by omega) (by omega)) (cn_nn (by omega) (by omega))
  omega
theorem ata_near {s b m n : Int} (s0 : 100 ≤ s) (b0 : 0 ≤ b) (b1 : b ≤ 16560000) (hm : 0 ≤ m) (hn : 0 ≤ n) (rm : Rd m s (cn b)) (rn : Rd n s (sn b)) : b - 360000 ≤ ata m n ∧ ata m n ≤ b + 360000 := by
  have ha := ata_b m n
  constructor
  · refine Classical.byContradiction fun h => ?_
    have hc := ata_above (m := m) (n := n) (b - 360000) (by omega) (by omega)
    have D := deg_cross (b := b - 360000) (by omega) (by omega)
    rw [show b - 360000 + 360000 = b by omega] at D
    have u0 := sn_nn (a := b - 360000) (by omega) (by omega)
    have v0 := cn_nn (a := b - 360000) (by omega) (by omega)
    have u1 := (sn_b (b - 360000)).2
    have v1 := (cn_b (b - 360000)).2
    generalize sn (b - 360000) = u at *
    generalize cn (b - 360000) = v at *
    generalize sn b = x at *
    generalize cn b = y at *
    obtain ⟨m0, m1⟩ := rm
    obtain ⟨n0, n1⟩ := rn
    have k1 : u * (2147483648 * m) ≤ u * (2 * (s * y) + 1073741824) := Int.mul_le_mul_of_nonneg_left m1 u0
    have k2 : v * (2 * (s * x) - 1073741824) ≤ v * (2147483648 * n) := Int.mul_le_mul_of_nonneg_left n0 v0
    have k3 : s * 14411518807585588 ≤ s * (x * v - y * u) := Int.mul_le_mul_of_nonneg_left D (by omega)
    have e1 : u * (2147483648 * m) = 2147483648 * (u * m) := by grind
    have e2 : v * (2147483648 * n) = 2147483648 * (v * n) := by grind
    have e3 : u * (2 * (s * y) + 1073741824) = 2 * (s * (y * u)) + 1073741824 * u := by grind
    have e4 : v * (2 * (s * x) - 1073741824) = 2 * (s * (x * v)) - 1073741824 * v := by grind
    have e5 : s * (x * v - y * u) = s * (x * v) - s * (y * u) := by grind
    rw [e1, e3] at k1
    rw [e2, e4] at k2
    rw [e5] at k3
    generalize u * m = um at *
    generalize v * n = vn at *
    generalize s * (y * u) = A at *
    generalize s * (x * v) = B at *
    omega
  · refine Classical.byContradiction fun h => ?_
    have hc : sn (b + 360000) * m ≤ cn (b + 360000) * n := by
      have hok := okc_mono (m := m) (n := n) hm hn (b + 360000).toNat (ata m n).toNat (by omega) (by omega) (by
        simp only [okc, decide_eq_true_eq]
        rw [show (((ata m n).toNat : Nat) : Int) = ata m n by omega]
        exact ata_ok hn)
      simp only [okc, decide_eq_true_eq] at hok
      rw [show (((b + 360000).toNat : Nat) : Int) = b + 360000 by omega] at hok
      exact hok
    have D := deg_cross b0 b1
    have u0 := sn_nn (a := b + 360000) (by omega) (by omega)
    have v0 := cn_nn (a := b + 360000) (by omega) (by omega)
    have u1 := (sn_b (b + 360000)).2
    have v1 := (cn_b (b + 360000)).2
    generalize sn (b + 360000) = u at *
    generalize cn (b + 360000) = v at *
    generalize sn b = x at *
    generalize cn b = y at *
    obtain ⟨m0, m1⟩ := rm
    obtain ⟨n0, n1⟩ := rn
    have k1 : u * (2 * (s * y) - 1073741824) ≤ u * (2147483648 * m) := Int.mul_le_mul_of_nonneg_left m0 u0
    have k2 : v * (2147483648 * n) ≤ v * (2 * (s * x) + 1073741824) := Int.mul_le_mul_of_nonneg_left n1 v0
    have k3 : s * 14411518807585588 ≤ s * (u * y - v * x) := Int.mul_le_mul_of_nonneg_left D (by omega)
    have e1 : u * (2147483648 * m) = 2147483648 * (u * m) := by grind
    have e2 : v * (2147483648 * n) = 2147483648 * (v * n) := by grind
    have e3 : u * (2 * (s * y) - 1073741824) = 2 * (s * (u * y)) - 1073741824 * u := by grind
    have e4 : v * (2 * (s * x) + 1073741824) = 2 * (s * (v * x)) + 1073741824 * v := by grind
    have e5 : s * (u * y - v * x) = s * (u * y) - s * (v * x) := by grind
    rw [e1, e3] at k1
    rw [e2, e4] at k2
    rw [e5] at k3
    generalize u * m = um at *
    generalize v * n = vn at *
    generalize s * (u * y) = A at *
    generalize s * (v * x) = B at *
    omega
theorem octant {a : Int} (h0 : 0 ≤ a) (h1 : a ≤ 15840000) : sn a + 21474837 ≤ cn a := by
  have k1 := sn_mono (a := a) (b := 15840000) (by omega) h1 (by omega)
  have k2 := cn_mono (a := a) (b := 15840000) h0 h1 (by omega)
  have k3 : sn 15840000 + 21474837 ≤ cn 15840000 := by unfold cn sn; decide +kernel
  omega
theorem atq_near {s a y x : Int} (s0 : 100 ≤ s) (a0 : 0 ≤ a) (a1 : a ≤ 32400000) (hy : 0 ≤ y) (hx : 0 ≤ x) (ry : Rd y s (sn a)) (rx : Rd x s (cn a)) : a - 360000 ≤ atq y x ∧ atq y x ≤ a + 360000 := by
  have iy : iabs y = y := by unfold iabs; rw [if_neg (by omega)]
  have ix : iabs x = x := by unfold iabs; rw [if_neg (by omega)]
  unfold atq
  rw [iy, ix]
  by_cases h : x < y
  · rw [if_pos h, show max x y = y by omega, show min x y = x by omega]
    have hb : 32400000 - a ≤ 16560000 := by
      refine Classical.byContradiction fun hc => ?_
      have k := octant a0 (by omega)
      have k2 : s * (sn a + 21474837) ≤ s * cn a := Int.mul_le_mul_of_nonneg_left k (by omega)
      have k3 : s * (sn a + 21474837) = s * sn a + 21474837 * s := by grind
      obtain ⟨m0, m1⟩ := rx
      obtain ⟨n0, n1⟩ := ry
      generalize s * sn a = A at *
      generalize s * cn a = B at *
      omega
    have := ata_near (b := 32400000 - a) s0 (by omega) hb hy hx (by rw [cn_q]; exact ry) (by rw [sn_q]; exact rx)
    omega
  · rw [if_neg h, show max x y = x by omega, show min x y = y by omega]
    have hb : a ≤ 16560000 := by
      refine Classical.byContradiction fun hc => ?_
      have k := octant (a := 32400000 - a) (by omega) (by omega)
      rw [sn_q, cn_q] at k
      have k2 : s * (cn a + 21474837) ≤ s * sn a := Int.mul_le_mul_of_nonneg_left k (by omega)
      have k3 : s * (cn a + 21474837) = s * cn a + 21474837 * s := by grind
      obtain ⟨m0, m1⟩ := rx
      obtain ⟨n0, n1⟩ := ry
      generalize s * sn a = A at *
      generalize s * cn a = B at *
      omega
    exact ata_near s0 a0 hb hx hy rx ry
theorem rd_neg {E s v : Int} (h : Rd E s v) : Rd (-E) s (-v) := by
  obtain ⟨h0, h1⟩ := h
  have : s * -v = -(s * v) := by grind
  unfold Rd
  rw [this]
  omega
theorem rd_nn {E s v : Int} (h : Rd E s v) (s0 : 0 ≤ s) (hv : 0 ≤ v) : 0 ≤ E := by
  have := Int.mul_nonneg s0 hv
  obtain ⟨h0, h1⟩ := h
  omega
theorem ata_0 {m : Int} (hm : 0 < m) : ata m 0 = 0 := by
  refine ata_eq (by omega) (by omega) 0 (by omega) (by omega) (by rw [sn_0]; omega) (fun _ h => ?_)
  have := sn_rise (a := 0) (b := 1) (by omega) (by omega) (by omega)
  rw [sn_0] at this
  have k : 0 < sn (0 + 1) * m := Int.mul_pos (by show 0 < sn 1; omega) hm
  omega
theorem atq_y0 {x : Int} (hx : 0 < x) : atq 0 x = 0 := by
  have ix : iabs x = x := by unfold iabs; rw [if_neg (by omega)]
  have i0 : iabs 0 = 0 := by decide
  unfold atq
  rw [ix, i0, if_neg (by omega), show max x 0 = x by omega, show min x 0 = 0 by omega, ata_0 hx]
theorem atq_x0 {y : Int} (hy : 0 < y) : atq y 0 = 32400000 := by
  have iy : iabs y = y := by unfold iabs; rw [if_neg (by omega)]
  have i0 : iabs 0 = 0 := by decide
  unfold atq
  rw [iy, i0, if_pos hy, show max 0 y = y by omega, show min 0 y = 0 by omega, ata_0 hy]; omega
/-- an angle of the first quadrant, and the signs of sine and cosine. -/
theorem dir_near {s t E N : Int} (s0 : 100 ≤ s) (s1 : s ≤ 2000) (hE : Rd E s (sn t)) (hN : Rd N s (cn t)) (hz : ¬ (E = 0 ∧ N = 0)) :
    ∃ k, -360000 ≤ k ∧ k ≤ 360000 ∧ (at2 E N - t) % 129600000 = k % 129600000 := by
  have e1 : sn t = sn (t % 129600000) := (sn_mod t).symm
  have e2 : cn t = cn (t % 129600000) := (cn_mod t).symm
  rw [e1] at hE
  rw [e2] at hN
  have hm : t % 129600000 = t % 129600000 := rfl
  obtain ⟨b, hb, hq⟩ := quad t
  rw [hb] at hE hN
  rcases hq with h | h | h | h
  · have E0 := rd_nn hE (by omega) (sn_nn h.1 h.2)
    have N0 := rd_nn hN (by omega) (cn_nn h.1 h.2)
    have := atq_near s0 h.1 h.2 E0 N0 hE hN
    refine ⟨atq E N - b, by omega, by omega, ?_⟩
    unfold at2
    rw [if_pos (by omega)]; omega
  · -- the second quadrant
    have hs : sn b = sn (64800000 - b) := (sn_mirror b).symm
    have hc : cn b = - cn (64800000 - b) := by rw [cn_mirror]; omega
    rw [hs] at hE
    rw [hc] at hN
    have hN' := rd_neg hN
    rw [Int.neg_neg] at hN'
    have E0 := rd_nn hE (by omega) (sn_nn (by omega) (by omega))
    have N0 := rd_nn hN' (by omega) (cn_nn (by omega) (by omega))
    have := atq_near s0 (a := 64800000 - b) (by omega) (by omega) E0 N0 hE hN'
    rw [atq_neg2] at this
    by_cases hn : N = 0
    · subst hn
      have := atq_x0 (y := E) (by omega)
      refine ⟨atq E 0 - b, by omega, by omega, ?_⟩
      unfold at2; rw [if_pos (by omega)]; omega
    · refine ⟨64800000 - atq E N - b, by omega, by omega, ?_⟩
      unfold at2; rw [if_neg (by omega), if_pos (by omega)]; omega
  · -- the third quadrant
    have hs : sn b = - sn (b - 64800000) := by rw [← sn_half]; congr 1; omega
    have hc : cn b = - cn (b - 64800000) := by rw [← cn_half]; congr 1; omega
    rw [hs] at hE
    rw [hc] at hN
    have hE' := rd_neg hE
    rw [Int.neg_neg] at hE'
    have hN' := rd_neg hN
    rw [Int.neg_neg] at hN'
    have E0 := rd_nn hE' (by omega) (sn_nn (by omega) (by omega))
    have N0 := rd_nn hN' (by omega) (cn_nn (by omega) (by omega))
    have := atq_near s0 (a := b - 64800000) (by omega) (by omega) E0 N0 hE' hN'
    rw [atq_neg2, atq_neg1] at this
    by_cases he : E = 0
    · subst he
      have h2 := atq_y0 (x := -N) (by omega)
      rw [atq_neg2] at h2
      refine ⟨64800000 - b, by omega, by omega, ?_⟩
      unfold at2; rw [if_neg (by omega), if_pos (by omega)]; omega
    · by_cases hn : N = 0
      · subst hn
        have h2 := atq_x0 (y := -E) (by omega)
        rw [atq_neg1] at h2
        refine ⟨97200000 - b, by omega, by omega, ?_⟩
        unfold at2; rw [if_neg (by omega), if_neg (by omega), if_neg (by omega)]; omega
      · refine ⟨64800000 + atq E N - b, by omega, by omega, ?_⟩
        unfold at2; rw [if_neg (by omega), if_neg (by omega), if_pos (by omega)]; omega
  · -- the fourth quadrant
    have hs : sn b = - sn (129600000 - b) := by rw [← sn_neg, show -(129600000 - b) = b - 129600000 by omega]; exact sn_of (by omega)
    have hc : cn b = cn (129600000 - b) := by rw [← cn_neg (129600000 - b), show -(129600000 - b) = b - 129600000 by omega, ← cn_mod (b - 129600000), ← cn_mod b]; congr 1; omega
    rw [hs] at hE
    rw [hc] at hN
    have hE' := rd_neg hE
    rw [Int.neg_neg] at hE'
    have E0 := rd_nn hE' (by omega) (sn_nn (by omega) (by omega))
    have N0 := rd_nn hN (by omega) (cn_nn (by omega) (by omega))
    have := atq_near s0 (a := 129600000 - b) (by omega) (by omega) E0 N0 hE' hN
    rw [atq_neg1] at this
    by_cases he : E = 0
    · subst he
      have h2 := atq_y0 (x := N) (by omega)
      refine ⟨129600000 - b, by omega, by omega, ?_⟩
      unfold at2; rw [if_pos (by omega)]; omega
    · refine ⟨129600000 - atq E N - b, by omega, by omega, ?_⟩
      unfold at2; rw [if_neg (by omega), if_neg (by omega), if_neg (by omega)]; omega
end Fdk
