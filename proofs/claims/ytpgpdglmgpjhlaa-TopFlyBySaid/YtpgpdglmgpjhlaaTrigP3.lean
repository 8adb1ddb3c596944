/- Plain facts on the sine and cosine series and their inverses: no program in sight (C). -/
import Derived.Test.YtpgpdglmgpjhlaaTrigP2
namespace Fdk
set_option linter.unusedVariables false
def oka (y r : Int) (c : Nat) : Bool := decide (sn c * r ≤ 1073741824 * y)
def qN : Nat := 32400000
theorem qN_eq : qN = 32400000 := rfl
attribute [irreducible] qN
def asq (y r : Int) : Int := (grt (oka y r) qN : Nat)
def asi (y r : Int) : Int := if y < 0 then - asq (-y) r else asq y r
theorem oka_0 {y r : Int} (hy : 0 ≤ y) : oka y r 0 = true := by
  have e1 : sn ((0 : Nat) : Int) = 0 := sn_0
  unfold oka; rw [decide_eq_true_eq, e1]; omega
theorem oka_mono {y r : Int} (hr : 0 ≤ r) (a b : Nat) (h : a ≤ b) (hb : b ≤ qN) (ho : oka y r b = true) : oka y r a = true := by
  have qN_eq := qN_eq
  unfold oka at *
  rw [decide_eq_true_eq] at *
  have h1 : sn a ≤ sn b := sn_mono (by omega) (by omega) (by omega)
  exact Int.le_trans (Int.mul_le_mul_of_nonneg_right h1 hr) ho
theorem asq_b (y r : Int) : 0 ≤ asq y r ∧ asq y r ≤ 32400000 := by
  have := grt_le (oka y r) qN; have := qN_eq
  unfold asq; omega
theorem asi_b (y r : Int) : -32400000 ≤ asi y r ∧ asi y r ≤ 32400000 := by
  have := asq_b y r; have := asq_b (-y) r
  unfold asi; split <;> omega
theorem asq_eq {y r : Int} (hr : 0 ≤ r) (q : Int) (h0 : 0 ≤ q) (hq : q ≤ 32400000) (h1 : sn q * r ≤ 1073741824 * y) (h2 : q < 32400000 → ¬ sn (q + 1) * r ≤ 1073741824 * y) : asq y r = q := by
  obtain ⟨k, rfl⟩ := Int.eq_ofNat_of_zero_le h0
  have qN_eq := qN_eq
  unfold asq; congr 1
  refine grt_eq _ _ _ (by omega) (by simpa [oka] using h1) (fun j hj hj2 => ?_)
  have h3 : oka y r (k + 1) = false := by
    have := h2 (by omega)
    simp only [oka]; simpa using this
  cases h4 : oka y r j
  · rfl
  · rw [oka_mono hr (k + 1) j (by omega) (by omega) h4] at h3; exact h3
theorem asi_neg (y r : Int) (h : y ≠ 0 ∨ asq 0 r = 0) : asi (-y) r = - asi y r := by
  unfold asi
  by_cases h1 : y < 0
  · rw [if_neg (by omega), if_pos h1]; omega
  · by_cases h2 : y = 0
    · subst h2; rw [if_neg (by omega), if_neg (by omega)]
      rcases h with h | h
      · exact absurd rfl h
      · simp [h]
    · rw [if_pos (by omega), if_neg h1]; simp

/-- the arc tangent of sine and cosine, in the first eighth. -/
theorem ata_sc {b : Int} (h0 : 0 ≤ b) (h1 : b ≤ 16200000) : ata (cn b) (sn b) = b := by
  have e := sn_e h0 h1
  refine ata_eq (by omega) e.1 b h0 h1 (by rw [Int.mul_comm]; exact Int.le_refl _) (fun hb => ?_)
  have h2 : sn b + 30 ≤ sn (b + 1) := sn_rise (by omega) (by omega) (by omega)
  have h3 : cn (b + 1) ≤ cn b := cn_mono h0 (by omega) (by omega)
  have h4 : cn (b + 1) * sn b ≤ cn b * sn b := Int.mul_le_mul_of_nonneg_right h3 e.1
  have h5 : (sn b + 30) * cn b ≤ sn (b + 1) * cn b := Int.mul_le_mul_of_nonneg_right h2 (by omega)
  rw [Int.add_mul, Int.mul_comm (sn b)] at h5
  generalize cn b * sn b = P at *
  generalize cn (b + 1) * sn b = P1 at *
  generalize sn (b + 1) * cn b = P2 at *
  omega
theorem atq_sc {b : Int} (h0 : 0 ≤ b) (h1 : b ≤ 32400000) : atq (sn b) (cn b) = b := by
  by_cases h : b ≤ 16200000
  · have e := sn_e h0 h
    have e1 : iabs (sn b) = sn b := by unfold iabs; rw [if_neg (by omega)]
    have e2 : iabs (cn b) = cn b := by unfold iabs; rw [if_neg (by omega)]
    unfold atq; rw [e1, e2, if_neg (by omega), Int.max_eq_left (by omega), Int.min_eq_right (by omega)]
    exact ata_sc h0 h
  · have e := sn_e (a := 32400000 - b) (by omega) (by omega)
    have r := sn_rise (a := 32400000 - b) (b := 16200000) (by omega) (by omega) (by omega)
    rw [sn_E] at r
    rw [sn_q, cn_q] at e; rw [sn_q] at r
    have e1 : iabs (sn b) = sn b := by unfold iabs; rw [if_neg (by omega)]
    have e2 : iabs (cn b) = cn b := by unfold iabs; rw [if_neg (by omega)]
    unfold atq; rw [e1, e2, if_pos (by omega), Int.max_eq_right (by omega), Int.min_eq_left (by omega)]
    have := ata_sc (b := 32400000 - b) (by omega) (by omega)
    rw [sn_q, cn_q] at this; omega
/-- the first half of TrigInverse. -/
theorem at2_sc (c : Int) : at2 (sn c) (cn c) = c % 129600000 := by
  rw [← sn_mod c, ← cn_mod c]
  obtain ⟨b, hb, h⟩ := quad c
  rw [hb]
  have s0 := sn_0
  rcases h with h | h | h | h
  · have k := atq_sc h.1 h.2
    have k1 : 0 ≤ sn b := by have := sn_mono (a := 0) (b := b) (by omega) h.1 h.2; omega
    have k2 : 0 ≤ cn b := by have := sn_mono (a := 0) (b := 32400000 - b) (by omega) (by omega) (by omega); rw [sn_q] at this; omega
    unfold at2; rw [if_pos ⟨k2, k1⟩, k]
  · have e1 : sn b = sn (64800000 - b) := (sn_mirror b).symm
    have e2 : cn b = - cn (64800000 - b) := by rw [cn_mirror]; omega
    have k := atq_sc (b := 64800000 - b) (by omega) (by omega)
    have k1 : 0 ≤ sn (64800000 - b) := by have := sn_mono (a := 0) (b := 64800000 - b) (by omega) (by omega) (by omega); omega
    have k2 : 0 ≤ cn (64800000 - b) := by have := sn_mono (a := 0) (b := 32400000 - (64800000 - b)) (by omega) (by omega) (by omega); rw [sn_q] at this; omega
    rw [e1, e2]; unfold at2; rw [atq_neg2, k]
    by_cases hz : b = 32400000
    · subst hz; split
      · omega
      · first | rfl | (rw [if_pos k1]; rfl)
    · have k3 : 0 < cn (64800000 - b) := by
        by_cases hz2 : 16200000 ≤ 64800000 - b
        · have := sn_rise (a := 0) (b := 32400000 - (64800000 - b)) (by omega) (by omega) (by omega); rw [sn_q] at this; omega
        · have := sn_e (a := 64800000 - b) (by omega) (by omega); omega
      rw [if_neg (by omega), if_pos k1]; omega
  · have e1 : sn b = - sn (b - 64800000) := by have := sn_half (b - 64800000); rw [← this]; congr 1; omega
    have e2 : cn b = - cn (b - 64800000) := by have := cn_half (b - 64800000); rw [← this]; congr 1; omega
    have k := atq_sc (b := b - 64800000) (by omega) (by omega)
    by_cases hz : b = 64800000
    · subst hz
      rw [e1, e2, at2, atq_neg1, atq_neg2, k, show (64800000 : Int) - 64800000 = 0 from rfl, sn_0, cn_0]
      decide
    have k1 : 0 < sn (b - 64800000) := by
      by_cases hz2 : b - 64800000 ≤ 16200000
      · have := sn_rise (a := 0) (b := b - 64800000) (by omega) (by omega) hz2; omega
      · have := sn_mono (a := 16200000) (b := b - 64800000) (by omega) (by omega) (by omega); rw [sn_E] at this; omega
    have k2 : 0 ≤ cn (b - 64800000) := by have := sn_mono (a := 0) (b := 32400000 - (b - 64800000)) (by omega) (by omega) (by omega); rw [sn_q] at this; omega
    rw [e1, e2]; unfold at2; rw [atq_neg2, atq_neg1, k, if_neg (by omega), if_neg (by omega)]
    by_cases hz : b = 97200000
    · subst hz
      have c0 : cn (97200000 - 64800000) = 0 := by unfold cn sn; decide +kernel
      rw [if_neg (by omega)]; decide
    · have k3 : 0 < cn (b - 64800000) := by
        by_cases hz2 : 16200000 ≤ b - 64800000
        · have := sn_rise (a := 0) (b := 32400000 - (b - 64800000)) (by omega) (by omega) (by omega); rw [sn_q] at this; omega
        · have := sn_e (a := b - 64800000) (by omega) (by omega); omega
      rw [if_pos (by omega)]; omega
  · have e1 : sn b = - sn (129600000 - b) := by rw [← sn_neg]; exact sn_of (by omega)
    have e2 : cn b = cn (129600000 - b) := by rw [← cn_neg, ← cn_mod, ← cn_mod (129600000 - b)]; congr 1; omega
    have k := atq_sc (b := 129600000 - b) (by omega) (by omega)
    have k1 : 0 < sn (129600000 - b) := by
      by_cases hz2 : 129600000 - b ≤ 16200000
      · have := sn_rise (a := 0) (b := 129600000 - b) (by omega) (by omega) hz2; omega
      · have := sn_mono (a := 16200000) (b := 129600000 - b) (by omega) (by omega) (by omega); rw [sn_E] at this; omega
    have k2 : 0 ≤ cn (129600000 - b) := by have := sn_mono (a := 0) (b := 32400000 - (129600000 - b)) (by omega) (by omega) (by omega); rw [sn_q] at this; omega
    rw [e1, e2]; unfold at2; rw [atq_neg1, k, if_neg (by omega), if_neg (by omega), if_neg (by omega)]; omega
/-- the second half. -/
theorem asi_sc {d : Int} (h0 : -16200000 ≤ d) (h1 : d ≤ 16200000) : asi (sn d) 1073741824 = d := by
  have main : ∀ d : Int, 0 ≤ d → d ≤ 16200000 → asq (sn d) 1073741824 = d := fun d h0 h1 => by
    refine asq_eq (by omega) d h0 (by omega) (by omega) (fun _ => ?_)
    by_cases h : d = 16200000
    · subst h; unfold sn; decide +kernel
    · have := sn_rise (a := d) (b := d + 1) (by omega) (by omega) (by omega); omega
  have s0 := sn_0
  unfold asi
  by_cases h : d < 0
  · have := sn_rise (a := d) (b := 0) h0 h (by omega)
    rw [if_pos (by omega), ← sn_neg, main (-d) (by omega) (by omega)]; omega
  · have := sn_mono (a := 0) (b := d) (by omega) (by omega) (by omega)
    rw [if_neg (by omega), main d (by omega) h1]
end Fdk
