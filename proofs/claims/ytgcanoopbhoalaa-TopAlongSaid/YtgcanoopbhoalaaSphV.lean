/- The examples of package sphere's chapter, plain. -/
import Derived.Test.YtgcanoopbhoalaaSphN
import Derived.Test.YtgcanoopbhoalaaSphK
namespace Go.Proofs.Ytgcanoopbhoalaa
open Go.RowKit Go.Joins Fdk
set_option linter.unusedVariables false
theorem ata_val {m n : Int} (q : Int) (h : (decide (0 ≤ m) && decide (0 ≤ n) && decide (0 ≤ q) && decide (q ≤ 16200000) && decide (sn q * m ≤ cn q * n) && (decide (q = 16200000) || decide (¬ sn (q + 1) * m ≤ cn (q + 1) * n))) = true) : ata m n = q := by
  simp only [Bool.and_eq_true, Bool.or_eq_true, decide_eq_true_eq] at h
  obtain ⟨⟨⟨⟨⟨h1, h2⟩, h3⟩, h4⟩, h5⟩, h6⟩ := h
  exact ata_eq h1 h2 q h3 h4 h5 (fun h => by rcases h6 with k | k; omega; exact k)
/-- Atan2 at given numbers, out of one value of the search. -/
theorem a2_val {y x : Int} (q r : Int) (h1 : ata (max (iabs x) (iabs y)) (min (iabs x) (iabs y)) = q) (hf : (fits y x && !(decide (y = 0 ∧ x = 0))) = true)
    (h2 : r = (if 0 ≤ x ∧ 0 ≤ y then (if iabs x < iabs y then 32400000 - q else q) else if 0 ≤ y then 64800000 - (if iabs x < iabs y then 32400000 - q else q) else if x < 0 then 64800000 + (if iabs x < iabs y then 32400000 - q else q) else (-(if iabs x < iabs y then 32400000 - q else q)) % 129600000)) : a2 y x = (r, 0) := by
  simp only [Bool.and_eq_true, Bool.not_eq_true', decide_eq_false_iff_not] at hf
  unfold a2
  rw [if_pos hf.1, if_neg hf.2]
  unfold at2 atq
  rw [h1, h2]
theorem isq_val {n : Int} (r : Int) (h : (decide (0 ≤ r) && decide (r ≤ 5000000000) && decide (r * r ≤ n) && decide (n < (r + 1) * (r + 1))) = true) : isq n = r := by
  simp only [Bool.and_eq_true, decide_eq_true_eq] at h
  exact isq_eq h.1.1.1 h.1.1.2 h.1.2 h.2
theorem ex_of : ofv 32400000 0 = (0, 0, 1073741824, 0) := by decide +kernel
theorem a2_90 : a2 1073741824 0 = (32400000, 0) := a2_val 0 _ (ata_val 0 (by decide +kernel)) (by decide +kernel) (by decide +kernel)
theorem dv_val {a b c d : Int} (S I D r : Int) (h1 : csum (rd (cn a * sn b) * sn c - sn a * rd (cn c * sn d)) (sn a * rd (cn c * cn d) - rd (cn a * cn b) * sn c) (rd (cn a * cn b) * rd (cn c * sn d) - rd (cn a * sn b) * rd (cn c * cn d)) = S) (h2 : isq S = I) (h3 : rd (rd (cn a * cn b) * rd (cn c * cn d) + rd (cn a * sn b) * rd (cn c * sn d) + sn a * sn c) = D) (h4 : a2 I D = (r, 0)) : dv a b c d = r := by
  unfold dv; rw [h1, h2, h3, h4]
theorem dstv_val {a b c d : Int} (r : Int) (h1 : (vd a b && vd c d) = true) (h2 : dv a b c d = r) : dstv a b c d = (r, 0) := by
  unfold dstv; rw [h1, if_pos rfl, h2]
theorem crs_val {a b c d : Int} (v X Y r : Int) (h1 : dstv a b c d = (v, 0)) (hv : (decide (v < 600) || decide (v > 64799400)) = false) (h2 : lx b c d = X) (h3 : ly a b c d = Y) (h4 : a2 X Y = (r, 0)) : crs a b c d = (r, 0) := by
  simp only [Bool.or_eq_false_iff, decide_eq_false_iff_not] at hv
  unfold crs; rw [h1, if_pos rfl, if_neg (by omega), h2, h3, h4]
theorem crs_far {a b c d : Int} (v : Int) (h1 : dstv a b c d = (v, 0)) (hv : (decide (v < 600) || decide (v > 64799400)) = true) : crs a b c d = (0, 10) := by
  simp only [Bool.or_eq_true, decide_eq_true_eq] at hv
  unfold crs; rw [h1, if_pos rfl, if_pos hv]
theorem hy_val {x y : Int} (S r : Int) (h0 : x * x + y * y = S) (h : isq S = r) (hf : fits y x = true) : (hy x y).1 = r := by
  unfold hy
  rw [if_pos hf, h0, h]
theorem posn_val {x y z : Int} (H A B r s : Int) (h0 : (big x || (big y || big z) || decide (x = 0 ∧ y = 0 ∧ z = 0)) = false) (h1 : (hy x y).1 = H) (h2 : (a2 z H).1 = A) (h3 : (a2 y x).1 = B) (h4 : adiff 0 A = r) (h5 : adiff 0 B = s) : posn x y z = (r, s, 0) := by
  unfold posn
  rw [if_neg (by rw [h0]; decide), h1, h2, h3, h4, h5]
theorem alv_val {a b t s : Int} (X Y Z : Int) (h1 : vd a b = true) (h2 : (decide (s < 0) || decide (s > 64800000)) = false) (hX : rd ((rd (cn a * cn b)) * cn s + rd ((-sn b) * sn t + (-rd (sn a * cn b)) * cn t) * sn s) = X) (hY : rd ((rd (cn a * sn b)) * cn s + rd ((cn b) * sn t + (-rd (sn a * sn b)) * cn t) * sn s) = Y) (hZ : rd ((sn a) * cn s + rd ((0) * sn t + (cn a) * cn t) * sn s) = Z) : alv a b t s = posn X Y Z := by
  simp only [Bool.or_eq_false_iff, decide_eq_false_iff_not] at h2
  unfold alv
  rw [if_pos h1, if_neg (by omega), hX, hY, hZ]
theorem ex_d1 : dv 0 0 0 32400000 = 32400000 := dv_val 1152921504606846976 1073741824 0 32400000 (by decide +kernel) (isq_val _ (by decide +kernel)) (by decide +kernel) a2_90
theorem ex_dist : dstv 0 0 0 32400000 = (32400000, 0) := dstv_val 32400000 (by decide +kernel) ex_d1
theorem ex_d2 : dv 0 0 0 10800000 = 10800000 := dv_val 288230376151711744 536870912 929887697 10800000 (by decide +kernel) (isq_val _ (by decide +kernel)) (by decide +kernel) (a2_val 10800000 _ (ata_val _ (by decide +kernel)) (by decide +kernel) (by decide +kernel))
theorem ex_c1 : crs 0 0 0 10800000 = (32400000, 0) := crs_val 10800000 536870912 0 32400000 (dstv_val _ (by decide +kernel) ex_d2) (by decide +kernel) (by decide +kernel) (by decide +kernel) (a2_val 0 _ (ata_val _ (by decide +kernel)) (by decide +kernel) (by decide +kernel))
theorem ex_d3 : dv 0 0 0 599 = 599 := dv_val (sn 599 * sn 599) (sn 599) (cn 599) 599 (by decide +kernel) (isq_val _ (by decide +kernel)) (by decide +kernel) (a2_val 599 _ (ata_val _ (by decide +kernel)) (by decide +kernel) (by decide +kernel))
theorem ex_c2 : crs 0 0 0 599 = (0, 10) := crs_far 599 (dstv_val _ (by decide +kernel) ex_d3) (by decide +kernel)
theorem ex_p1 : posn 0 0 1073741824 = (32400000, 0, 0) := posn_val 0 32400000 0 _ _ (by decide +kernel) (hy_val 0 0 (by decide +kernel) (isq_val _ (by decide +kernel)) (by decide +kernel)) (by rw [a2_90]) (by decide +kernel) (by decide +kernel) (by decide +kernel)
theorem ex_a1 : alv 0 0 0 32400000 = (32400000, 0, 0) := (alv_val 0 0 1073741824 (by decide +kernel) (by decide +kernel) (by decide +kernel) (by decide +kernel) (by decide +kernel)).trans ex_p1
theorem ex_q1 : a2 0 1073741824 = (0, 0) := a2_val 0 _ (ata_val _ (by decide +kernel)) (by decide +kernel) (by decide +kernel)
theorem ex_q2 : a2 536870912 929887697 = (10800000, 0) := a2_val 10800000 _ (ata_val _ (by decide +kernel)) (by decide +kernel) (by decide +kernel)
theorem ex_p2 : posn 929887697 536870912 0 = (0, 10800000, 0) := posn_val 1073741824 0 10800000 _ _ (by decide +kernel) (hy_val (929887697 * 929887697 + 536870912 * 536870912) 1073741824 rfl (isq_val _ (by decide +kernel)) (by decide +kernel)) (by rw [ex_q1]) (by rw [ex_q2]) (by decide +kernel) (by decide +kernel)
theorem ex_a2 : alv 0 0 32400000 10800000 = (0, 10800000, 0) := (alv_val 929887697 536870912 0 (by decide +kernel) (by decide +kernel) (by decide +kernel) (by decide +kernel) (by decide +kernel)).trans ex_p2
end Go.Proofs.Ytgcanoopbhoalaa
