/- The distance between the ends of a path is at most its length, but for the errors. -/
import Derived.Test.YtgcanoopbhoalaaRotZb
namespace Go.Proofs.Ytgcanoopbhoalaa
open Go.RowKit Go.Joins Fdk
set_option linter.unusedVariables false
/-- a scale at which a position's vector has the unit length. -/
def Uni (a b : Int) (n : Rat) : Prop := (9999999/10000000 ≤ n ∧ n ≤ 1 + 1/100000000) ∧
    ((rd (cn a * cn b) : Rat) / (1073741824 * n)) * ((rd (cn a * cn b) : Rat) / (1073741824 * n)) + ((rd (cn a * sn b) : Rat) / (1073741824 * n)) * ((rd (cn a * sn b) : Rat) / (1073741824 * n)) + ((sn a : Rat) / (1073741824 * n)) * ((sn a : Rat) / (1073741824 * n)) ≤ 1 ∧
    1 - 1/100000000000000000000000000000 ≤ ((rd (cn a * cn b) : Rat) / (1073741824 * n)) * ((rd (cn a * cn b) : Rat) / (1073741824 * n)) + ((rd (cn a * sn b) : Rat) / (1073741824 * n)) * ((rd (cn a * sn b) : Rat) / (1073741824 * n)) + ((sn a : Rat) / (1073741824 * n)) * ((sn a : Rat) / (1073741824 * n))
def dotU (a b c d : Int) (n m : Rat) : Rat := ((rd (cn a * cn b) : Rat) / (1073741824 * n)) * ((rd (cn c * cn d) : Rat) / (1073741824 * m)) + ((rd (cn a * sn b) : Rat) / (1073741824 * n)) * ((rd (cn c * sn d) : Rat) / (1073741824 * m)) + ((sn a : Rat) / (1073741824 * n)) * ((sn c : Rat) / (1073741824 * m))
/-- the angle between two positions is at most T. -/
def Within (a b c d T : Int) : Prop := 2 ≤ T ∧ (T ≤ 64799998 → ∀ n m, Uni a b n → Uni c d m → CC T ≤ dotU a b c d n m)
theorem within_base (a b c d : Int) : Within a b c d (dv a b c d + 2) := by
  have := dv_b a b c d
  refine ⟨by omega, fun h n m hn hm => ?_⟩
  exact (dist_cos a b c d n m hn.1 hm.1 _ _ _ _ _ _ rfl rfl rfl rfl rfl rfl hn.2.1 hn.2.2 hm.2.1 hm.2.2).1 h
theorem within_step {a b c d T : Int} (e f : Int) (h : Within a b c d T) : Within a b e f (T + (dv c d e f + 2)) := by
  have t2 := dv_b c d e f
  obtain ⟨h2, h⟩ := h
  refine ⟨by omega, fun hT n k hn hk => ?_⟩
  obtain ⟨m, hm⟩ := unit_ex c d
  have d1 := h (by omega) n m hn hm
  have d2 := (dist_cos c d e f m k hm.1 hk.1 _ _ _ _ _ _ rfl rfl rfl rfl rfl rfl hm.2.1 hm.2.2 hk.2.1 hk.2.2).1 (by omega)
  have sa := SS_pos h2 (by omega)
  have sb := SS_pos (s := dv c d e f + 2) (by omega) (by omega)
  have sc := SS_pos (s := T + (dv c d e f + 2)) (by omega) hT
  have ad := CS_add T (dv c d e f + 2)
  have tc := tri_cos hn.2.1 hm.2.1 hk.2.1 (CS_unit T) (CS_unit (dv c d e f + 2)) (by grind) (by grind) (by rw [ad.2] at sc; grind) d1 d2
  rw [← ad.1] at tc
  exact tc
theorem within_end {a b c d T : Int} (h : Within a b c d T) : dv a b c d ≤ T + 2 := by
  refine Classical.byContradiction fun hn => ?_
  have t := dv_b a b c d
  obtain ⟨h2, h⟩ := h
  obtain ⟨n, hn'⟩ := unit_ex a b
  obtain ⟨m, hm⟩ := unit_ex c d
  have d1 := h (by omega) n m hn' hm
  have d3 := (dist_cos a b c d n m hn'.1 hm.1 _ _ _ _ _ _ rfl rfl rfl rfl rfl rfl hn'.2.1 hn'.2.2 hm.2.1 hm.2.2).2 (by omega)
  have dc := CC_dec T h2 (dv a b c d - 2 - T - 1).toNat (by omega)
  have ee : T + 1 + ((dv a b c d - 2 - T - 1).toNat : Int) = dv a b c d - 2 := by omega
  rw [ee] at dc
  unfold dotU at d1
  grind
/-- the sum of the first legs. -/
def legs (A B : Nat → Int) : Nat → Int
  | 0 => 0
  | n + 1 => legs A B n + dv (A n) (B n) (A (n + 1)) (B (n + 1))
theorem legs_b (A B : Nat → Int) (n : Nat) : 0 ≤ legs A B n ∧ legs A B n ≤ 64800000 * n := by
  induction n with
  | zero => exact ⟨Int.le_refl _, Int.le_refl _⟩
  | succ n ih =>
    have := dv_b (A n) (B n) (A (n + 1)) (B (n + 1))
    unfold legs
    omega
theorem legs_within (A B : Nat → Int) (n : Nat) : Within (A 0) (B 0) (A (n + 1)) (B (n + 1)) (legs A B (n + 1) + 2 * ((n : Int) + 1)) := by
  induction n with
  | zero =>
    have := within_base (A 0) (B 0) (A 1) (B 1)
    have e : legs A B (0 + 1) + 2 * (((0 : Nat) : Int) + 1) = dv (A 0) (B 0) (A 1) (B 1) + 2 := by
      show 0 + dv (A 0) (B 0) (A 1) (B 1) + 2 * (0 + 1) = _
      omega
    rw [e]; exact this
  | succ n ih =>
    have := within_step (A (n + 1 + 1)) (B (n + 1 + 1)) ih
    have e : legs A B (n + 1 + 1) + 2 * (((n + 1 : Nat) : Int) + 1) = legs A B (n + 1) + 2 * ((n : Int) + 1) + (dv (A (n + 1)) (B (n + 1)) (A (n + 1 + 1)) (B (n + 1 + 1)) + 2) := by
      have : legs A B (n + 1 + 1) = legs A B (n + 1) + dv (A (n + 1)) (B (n + 1)) (A (n + 1 + 1)) (B (n + 1 + 1)) := rfl
      omega
    rw [e]; exact this
theorem legs_end (A B : Nat → Int) (n : Nat) : dv (A 0) (B 0) (A (n + 1)) (B (n + 1)) ≤ legs A B (n + 1) + 2 * ((n : Int) + 1 + 1) := by
  have := within_end (legs_within A B n)
  omega
end Go.Proofs.Ytgcanoopbhoalaa
