/- The examples of package plane's chapter, plain; Inside. -/
import Derived.Test.YtmlacekgmdlfjaaPlnD
namespace Go.Proofs.Ytmlacekgmdlfjaa
open Go.RowKit Go.Joins Fdk
set_option linter.unusedVariables false
theorem ata_val {m n : Int} (q : Int) (h : (decide (0 ≤ m) && decide (0 ≤ n) && decide (0 ≤ q) && decide (q ≤ 16200000) && decide (sn q * m ≤ cn q * n) && (decide (q = 16200000) || decide (¬ sn (q + 1) * m ≤ cn (q + 1) * n))) = true) : ata m n = q := by
  simp only [Bool.and_eq_true, Bool.or_eq_true, decide_eq_true_eq] at h
  obtain ⟨⟨⟨⟨⟨h1, h2⟩, h3⟩, h4⟩, h5⟩, h6⟩ := h
  exact ata_eq h1 h2 q h3 h4 h5 (fun h => by rcases h6 with k | k; omega; exact k)
/-- Atan2 at given numbers, out of one value of the search. -/
theorem a2_val {y x : Int} (q r : Int) (h1 : ata (max (iabs x) (iabs y)) (min (iabs x) (iabs y)) = q) (hf : (fits y x && !(decide (y = 0 ∧ x = 0))) = true)
    (h2 : r = (if 0 ≤ x ∧ 0 ≤ y then (if iabs x < iabs y then 32400000 - q else q) else if 0 ≤ y then 64800000 - (if iabs x < iabs y then 32400000 - q else q) else if x < 0 then 64800000 + (if iabs x < iabs y then 32400000 - q else q) else (-(if iabs x < iabs y then 32400000 - q else q)) % 129600000)) : a2 y x = (r, 0) := by
  simp only [Bool.and_eq_true, Bool.not_eq_true', decide_eq_false_iff_not] at hf
  unfold a2
  rw [if_pos hf.1, if_neg hf.2]
  unfold at2 atq
  rw [h1, h2]
theorem isq_val {n : Int} (r : Int) (h : (decide (0 ≤ r) && decide (r ≤ 5000000000) && decide (r * r ≤ n) && decide (n < (r + 1) * (r + 1))) = true) : isq n = r := by
  simp only [Bool.and_eq_true, decide_eq_true_eq] at h
  exact isq_eq h.1.1.1 h.1.1.2 h.1.2 h.2
theorem hy_val {x y : Int} (S r : Int) (h0 : x * x + y * y = S) (h : isq S = r) (hf : fits y x = true) : (hy x y).1 = r := by
  unfold hy
  rw [if_pos hf, h0, h]
theorem posn_val {x y z : Int} (H A B r s : Int) (h0 : (big x || (big y || big z) || decide (x = 0 ∧ y = 0 ∧ z = 0)) = false) (h1 : (hy x y).1 = H) (h2 : (a2 z H).1 = A) (h3 : (a2 y x).1 = B) (h4 : adiff 0 A = r) (h5 : adiff 0 B = s) : posn x y z = (r, s, 0) := by
  unfold posn
  rw [if_neg (by rw [h0]; decide), h1, h2, h3, h4, h5]
theorem tov_val {a b c d : Int} (X Y L : Int) (h : (org a b && vd c d) = true) (hX : lx b c d = X) (hY : ly a b c d = Y) (hL : lz a b c d = L) : tov a b c d = (if L ≤ 0 then (0, 0, 2) else if pvd (qnear (20626481 * X) L) (qnear (20626481 * Y) L) then (qnear (20626481 * X) L, qnear (20626481 * Y) L, 0) else (0, 0, 2)) := by
  unfold tov
  rw [if_pos h, hX, hY, hL]
theorem ex_t1 : tov 0 0 0 0 = (0, 0, 0) := (tov_val 0 0 1073741824 (by decide +kernel) (by decide +kernel) (by decide +kernel) (by decide +kernel)).trans (by decide +kernel)
theorem ex_t2 : tov 0 0 0 32400000 = (0, 0, 2) := (tov_val 1073741824 0 0 (by decide +kernel) (by decide +kernel) (by decide +kernel) (by decide +kernel)).trans (by decide +kernel)
theorem ex_t3 : tov 0 0 0 2160000 = (0, 0, 2) := (tov_val 112236583 0 1067859754 (by decide +kernel) (by decide +kernel) (by decide +kernel) (by decide +kernel)).trans (by decide +kernel)
theorem ex_t4 : tov 25560000 0 0 0 = (0, 0, 1) := by
  unfold tov
  rw [if_neg (by decide +kernel)]
theorem frv_val {a b x y : Int} (X Y Z : Int) (h1 : org a b = true) (h2 : pvd x y = true) (hX : qnear (20626481 * rd (cn a * cn b) - sn b * x - rd (sn a * cn b) * y) 20626481 = X) (hY : qnear (20626481 * rd (cn a * sn b) + cn b * x - rd (sn a * sn b) * y) 20626481 = Y) (hZ : qnear (20626481 * sn a + cn a * y) 20626481 = Z) : frv a b x y = posn X Y Z := by
  unfold frv
  rw [if_pos h1, if_pos h2, hX, hY, hZ]
theorem ex_q1 : a2 0 1074196006 = (0, 0) := a2_val 0 _ (ata_val _ (by decide +kernel)) (by decide +kernel) (by decide +kernel)
theorem ex_q2 : a2 31233883 1073741824 = (599830, 0) := a2_val 599830 _ (ata_val _ (by decide +kernel)) (by decide +kernel) (by decide +kernel)
theorem ex_p : posn 1073741824 31233883 0 = (0, 599830, 0) := posn_val 1074196006 0 599830 _ _ (by decide +kernel) (hy_val (1073741824 * 1073741824 + 31233883 * 31233883) 1074196006 rfl (isq_val _ (by decide +kernel)) (by decide +kernel)) (by rw [ex_q1]) (by rw [ex_q2]) (by decide +kernel) (by decide +kernel)
theorem ex_f : frv 0 0 600000 0 = (0, 599830, 0) := (frv_val 1073741824 31233883 0 (by decide +kernel) (by decide +kernel) (by decide +kernel) (by decide +kernel) (by decide +kernel)).trans ex_p
set_option maxHeartbeats 1600000 in
theorem inside_any (a b c d : Int) (w : World) :
    Calls Try.prog 20 #[posV a b, posV c d] w fun e w' => e = .returned (.bool ((tov a b c d).2.2 == 0)) ∧ Below w.heap.size w w' := by
  go_enter Try.func20, Try.ntmps20
  go_wp2_with fail
  refine (to_any _ _ _ _ _).mono ?_
  rintro e w1 ⟨rfl, hb⟩
  have B := thn (below_alloc2 w _ _) hb
  go_wp2
  go_ret
  exact ⟨rfl, alc B _⟩
end Go.Proofs.Ytmlacekgmdlfjaa
