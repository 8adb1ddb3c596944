/- The law that sines and cosines are within Error of the real ones: the call returns true. -/
import Derived.Test.YtdbklfledjaklaaLaw07e
namespace Go.Proofs.Ytdbklfledjaklaa
open Go.RowKit Fdk
set_option linter.unusedVariables false
set_option linter.unusedSimpArgs false

def rlo (f a : Int) : Int := if f = 1 then (ser1 a 9).lo else (ser0 a 9).lo
def rhi (f a : Int) : Int := if f = 1 then (ser1 a 9).hi + 1 else (ser0 a 9).hi + 1
theorem real_any (a f : Int) (w : World) (h0 : 0 ≤ a) (h1 : a ≤ 16200000) (hf : f = 0 ∨ f = 1) :
    Calls Try.prog 18 #[.int .i64 a, .int .i64 f] w fun e w' => e = TwoI (rlo f a) (rhi f a) ∧ w = w' := by
  rcases hf with rfl | rfl
  · refine (real_0 a w h0 h1).mono ?_
    rintro e w1 ⟨rfl, rfl⟩
    exact ⟨rfl, rfl⟩
  · refine (real_1 a w h0 h1).mono ?_
    rintro e w1 ⟨rfl, rfl⟩
    exact ⟨rfl, rfl⟩
theorem cert_1' {a : Int} (h0 : 0 ≤ a) (h1 : a ≤ 16200000) : rhi 1 a ≤ (sine a + 2) * 1073741824 ∧ (sine a - 2) * 1073741824 ≤ rlo 1 a := ⟨(cert_1 h0 h1).up, (cert_1 h0 h1).dn⟩
theorem cert_0' {a : Int} (h0 : 0 ≤ a) (h1 : a ≤ 16200000) : rhi 0 a ≤ (cosine a + 2) * 1073741824 ∧ (cosine a - 2) * 1073741824 ≤ rlo 0 a := ⟨(cert_0 h0 h1).up, (cert_0 h0 h1).dn⟩
attribute [irreducible] rlo rhi
theorem qc {b : Int} (h0 : 0 ≤ b) (h1 : b ≤ 16200000) : qsin (32400000 - b) = cosine b := by
  by_cases h : b = 16200000
  · subst h; decide +kernel
  · unfold qsin; rw [if_neg (by omega)]; congr 1; omega
theorem oct {b : Int} (h0 : 0 ≤ b) (h1 : b ≤ 16200000) : sn b = sine b ∧ cn b = cosine b := by
  constructor
  · rw [sn_1 h0 (by omega)]; unfold qsin; rw [if_pos h1]
  · rw [← sn_q, sn_1 (by omega) (by omega), qc h0 h1]
theorem certified_any (v lo hi : Int) (w : World) (v0 : 0 ≤ v) (v1 : v ≤ 1073741824) (h1 : hi ≤ (v + 2) * 1073741824) (h2 : (v - 2) * 1073741824 ≤ lo) :
    Calls Try.prog 19 #[.int .i64 v, .int .i64 lo, .int .i64 hi] w fun e w' => e = .returned (.bool true) ∧ w = w' := by
  go_enter Try.func19, Try.ntmps19
  go_wp2
  go_ret
  exact ⟨rfl, rfl⟩
/-- all that the walk asks of the folded angle. -/
structure Fold (b X Y : Int) : Prop where
  b0 : 0 ≤ b
  b1 : b ≤ 16200000
  x0 : 0 ≤ X
  x1 : X ≤ 1073741824
  y0 : 0 ≤ Y
  y1 : Y ≤ 1073741824
  k1 : rhi 1 b ≤ (X + 2) * 1073741824
  k2 : (X - 2) * 1073741824 ≤ rlo 1 b
  k3 : rhi 0 b ≤ (Y + 2) * 1073741824
  k4 : (Y - 2) * 1073741824 ≤ rlo 0 b
theorem fold_of {b X Y : Int} (h0 : 0 ≤ b) (h1 : b ≤ 16200000) (hx : X = sn b) (hy : Y = cn b) : Fold b X Y := by
  have ⟨e1, e2⟩ := oct h0 h1
  have ⟨s0, s1⟩ := sine_b h0 h1
  have ⟨c0, c1⟩ := cosine_b h0 h1
  have ⟨k1, k2⟩ := cert_1' h0 h1
  have ⟨k3, k4⟩ := cert_0' h0 h1
  rw [hx, hy, e1, e2]
  exact ⟨h0, h1, s0, by omega, by omega, c1, k1, k2, k3, k4⟩
theorem sn_c (b : Int) : sn (129600000 - b) = - sn b := by
  rw [← sn_neg]; exact sn_of (by omega)
theorem cn_c (b : Int) : cn (129600000 - b) = cn b := by
  rw [← cn_neg b, ← cn_mod (129600000 - b), ← cn_mod (-b)]; congr 1; omega
set_option maxHeartbeats 3200000 in
theorem trigCertified_walk (a : Int) (_ : -9223372036854775808 ≤ a ∧ a ≤ 9223372036854775807) (w : World) :
    Calls Try.prog 4 #[.int .i64 a] w fun e w' => e = .returned (.bool true) ∧ Below w.heap.size w w' := by
  have ⟨s0, s1⟩ := sn_b a
  have ⟨c0, c1⟩ := cn_b a
  have hs : sn a = sn (a % 129600000) := (sn_mod a).symm
  have hc : cn a = cn (a % 129600000) := (cn_mod a).symm
  have B0 : 0 ≤ a % 129600000 := by omega
  have B1 : a % 129600000 < 129600000 := by omega
  have hcs : (a % 129600000 ≤ 16200000) ∨ (16200000 < a % 129600000 ∧ a % 129600000 ≤ 32400000) ∨ (32400000 < a % 129600000 ∧ a % 129600000 < 48600000) ∨ (48600000 ≤ a % 129600000 ∧ a % 129600000 ≤ 64800000) ∨ (64800000 < a % 129600000 ∧ a % 129600000 ≤ 81000000) ∨ (81000000 < a % 129600000 ∧ a % 129600000 < 97200000) ∨ (97200000 ≤ a % 129600000 ∧ a % 129600000 < 113400000) ∨ (113400000 ≤ a % 129600000) := by omega
  rcases hcs with h | h | h | h | h | h | h | h
  · have F : Fold (a % 129600000) (sn a) (cn a) := fold_of (by omega) (by omega) (by simp only [sn_q, cn_q, sn_mirror, cn_mirror, sn_c, cn_c, hs, hc, Int.neg_neg]) (by simp only [sn_q, cn_q, sn_mirror, cn_mirror, sn_c, cn_c, hs, hc, Int.neg_neg])
    clear hs hc
    obtain ⟨b0, b1, x0, x1, y0, y1, k1, k2, k3, k4⟩ := F
    go_enter Try.func4, Try.ntmps4
    go_wp2_with fail
    refine (awake_any _).mono ?_
    rintro e w1 ⟨rfl, hb1⟩
    go_wp2_with (first | (go_at_call 17; refine (norm_any _ _).mono ?_; rintro e w' ⟨rfl, rfl⟩) | (go_at_call 13; refine (sin_any _ _).mono ?_; rintro e w' ⟨rfl, rfl⟩) | (go_at_call 15; refine (cos_any _ _).mono ?_; rintro e w' ⟨rfl, rfl⟩) | (go_at_call 18; refine (real_any _ _ _ (by omega) (by omega) (by omega)).mono ?_; rintro e w' ⟨rfl, rfl⟩) | (go_at_call 19; refine (certified_any _ _ _ _ (by omega) (by omega) (by omega) (by omega)).mono ?_; rintro e w' ⟨rfl, rfl⟩))
    go_ret
    exact ⟨rfl, hb1⟩
  · have F : Fold (32400000 - a % 129600000) (cn a) (sn a) := fold_of (by omega) (by omega) (by simp only [sn_q, cn_q, sn_mirror, cn_mirror, sn_c, cn_c, hs, hc, Int.neg_neg]) (by simp only [sn_q, cn_q, sn_mirror, cn_mirror, sn_c, cn_c, hs, hc, Int.neg_neg])
    clear hs hc
    obtain ⟨b0, b1, x0, x1, y0, y1, k1, k2, k3, k4⟩ := F
    go_enter Try.func4, Try.ntmps4
    go_wp2_with fail
    refine (awake_any _).mono ?_
    rintro e w1 ⟨rfl, hb1⟩
    go_wp2_with (first | (go_at_call 17; refine (norm_any _ _).mono ?_; rintro e w' ⟨rfl, rfl⟩) | (go_at_call 13; refine (sin_any _ _).mono ?_; rintro e w' ⟨rfl, rfl⟩) | (go_at_call 15; refine (cos_any _ _).mono ?_; rintro e w' ⟨rfl, rfl⟩) | (go_at_call 18; refine (real_any _ _ _ (by omega) (by omega) (by omega)).mono ?_; rintro e w' ⟨rfl, rfl⟩) | (go_at_call 19; refine (certified_any _ _ _ _ (by omega) (by omega) (by omega) (by omega)).mono ?_; rintro e w' ⟨rfl, rfl⟩))
    go_ret
    exact ⟨rfl, hb1⟩
  · have F : Fold (32400000 - (64800000 - a % 129600000)) (-cn a) (sn a) := fold_of (by omega) (by omega) (by simp only [sn_q, cn_q, sn_mirror, cn_mirror, sn_c, cn_c, hs, hc, Int.neg_neg]) (by simp only [sn_q, cn_q, sn_mirror, cn_mirror, sn_c, cn_c, hs, hc, Int.neg_neg])
    clear hs hc
    obtain ⟨b0, b1, x0, x1, y0, y1, k1, k2, k3, k4⟩ := F
    go_enter Try.func4, Try.ntmps4
    go_wp2_with fail
    refine (awake_any _).mono ?_
    rintro e w1 ⟨rfl, hb1⟩
    go_wp2_with (first | (go_at_call 17; refine (norm_any _ _).mono ?_; rintro e w' ⟨rfl, rfl⟩) | (go_at_call 13; refine (sin_any _ _).mono ?_; rintro e w' ⟨rfl, rfl⟩) | (go_at_call 15; refine (cos_any _ _).mono ?_; rintro e w' ⟨rfl, rfl⟩) | (go_at_call 18; refine (real_any _ _ _ (by omega) (by omega) (by omega)).mono ?_; rintro e w' ⟨rfl, rfl⟩) | (go_at_call 19; refine (certified_any _ _ _ _ (by omega) (by omega) (by omega) (by omega)).mono ?_; rintro e w' ⟨rfl, rfl⟩))
    go_ret
    exact ⟨rfl, hb1⟩
  · have F : Fold (64800000 - a % 129600000) (sn a) (-cn a) := fold_of (by omega) (by omega) (by simp only [sn_q, cn_q, sn_mirror, cn_mirror, sn_c, cn_c, hs, hc, Int.neg_neg]) (by simp only [sn_q, cn_q, sn_mirror, cn_mirror, sn_c, cn_c, hs, hc, Int.neg_neg])
    clear hs hc
    obtain ⟨b0, b1, x0, x1, y0, y1, k1, k2, k3, k4⟩ := F
    go_enter Try.func4, Try.ntmps4
    go_wp2_with fail
    refine (awake_any _).mono ?_
    rintro e w1 ⟨rfl, hb1⟩
    go_wp2_with (first | (go_at_call 17; refine (norm_any _ _).mono ?_; rintro e w' ⟨rfl, rfl⟩) | (go_at_call 13; refine (sin_any _ _).mono ?_; rintro e w' ⟨rfl, rfl⟩) | (go_at_call 15; refine (cos_any _ _).mono ?_; rintro e w' ⟨rfl, rfl⟩) | (go_at_call 18; refine (real_any _ _ _ (by omega) (by omega) (by omega)).mono ?_; rintro e w' ⟨rfl, rfl⟩) | (go_at_call 19; refine (certified_any _ _ _ _ (by omega) (by omega) (by omega) (by omega)).mono ?_; rintro e w' ⟨rfl, rfl⟩))
    go_ret
    exact ⟨rfl, hb1⟩
  · have F : Fold (64800000 - (129600000 - a % 129600000)) (-sn a) (-cn a) := fold_of (by omega) (by omega) (by simp only [sn_q, cn_q, sn_mirror, cn_mirror, sn_c, cn_c, hs, hc, Int.neg_neg]) (by simp only [sn_q, cn_q, sn_mirror, cn_mirror, sn_c, cn_c, hs, hc, Int.neg_neg])
    clear hs hc
    obtain ⟨b0, b1, x0, x1, y0, y1, k1, k2, k3, k4⟩ := F
    go_enter Try.func4, Try.ntmps4
    go_wp2_with fail
    refine (awake_any _).mono ?_
    rintro e w1 ⟨rfl, hb1⟩
    go_wp2_with (first | (go_at_call 17; refine (norm_any _ _).mono ?_; rintro e w' ⟨rfl, rfl⟩) | (go_at_call 13; refine (sin_any _ _).mono ?_; rintro e w' ⟨rfl, rfl⟩) | (go_at_call 15; refine (cos_any _ _).mono ?_; rintro e w' ⟨rfl, rfl⟩) | (go_at_call 18; refine (real_any _ _ _ (by omega) (by omega) (by omega)).mono ?_; rintro e w' ⟨rfl, rfl⟩) | (go_at_call 19; refine (certified_any _ _ _ _ (by omega) (by omega) (by omega) (by omega)).mono ?_; rintro e w' ⟨rfl, rfl⟩))
    go_ret
    exact ⟨rfl, hb1⟩
  · have F : Fold (32400000 - (64800000 - (129600000 - a % 129600000))) (-cn a) (-sn a) := fold_of (by omega) (by omega) (by simp only [sn_q, cn_q, sn_mirror, cn_mirror, sn_c, cn_c, hs, hc, Int.neg_neg]) (by simp only [sn_q, cn_q, sn_mirror, cn_mirror, sn_c, cn_c, hs, hc, Int.neg_neg])
    clear hs hc
    obtain ⟨b0, b1, x0, x1, y0, y1, k1, k2, k3, k4⟩ := F
    go_enter Try.func4, Try.ntmps4
    go_wp2_with fail
    refine (awake_any _).mono ?_
    rintro e w1 ⟨rfl, hb1⟩
    go_wp2_with (first | (go_at_call 17; refine (norm_any _ _).mono ?_; rintro e w' ⟨rfl, rfl⟩) | (go_at_call 13; refine (sin_any _ _).mono ?_; rintro e w' ⟨rfl, rfl⟩) | (go_at_call 15; refine (cos_any _ _).mono ?_; rintro e w' ⟨rfl, rfl⟩) | (go_at_call 18; refine (real_any _ _ _ (by omega) (by omega) (by omega)).mono ?_; rintro e w' ⟨rfl, rfl⟩) | (go_at_call 19; refine (certified_any _ _ _ _ (by omega) (by omega) (by omega) (by omega)).mono ?_; rintro e w' ⟨rfl, rfl⟩))
    go_ret
    exact ⟨rfl, hb1⟩
  · have F : Fold (32400000 - (129600000 - a % 129600000)) (cn a) (-sn a) := fold_of (by omega) (by omega) (by simp only [sn_q, cn_q, sn_mirror, cn_mirror, sn_c, cn_c, hs, hc, Int.neg_neg]) (by simp only [sn_q, cn_q, sn_mirror, cn_mirror, sn_c, cn_c, hs, hc, Int.neg_neg])
    clear hs hc
    obtain ⟨b0, b1, x0, x1, y0, y1, k1, k2, k3, k4⟩ := F
    go_enter Try.func4, Try.ntmps4
    go_wp2_with fail
    refine (awake_any _).mono ?_
    rintro e w1 ⟨rfl, hb1⟩
    go_wp2_with (first | (go_at_call 17; refine (norm_any _ _).mono ?_; rintro e w' ⟨rfl, rfl⟩) | (go_at_call 13; refine (sin_any _ _).mono ?_; rintro e w' ⟨rfl, rfl⟩) | (go_at_call 15; refine (cos_any _ _).mono ?_; rintro e w' ⟨rfl, rfl⟩) | (go_at_call 18; refine (real_any _ _ _ (by omega) (by omega) (by omega)).mono ?_; rintro e w' ⟨rfl, rfl⟩) | (go_at_call 19; refine (certified_any _ _ _ _ (by omega) (by omega) (by omega) (by omega)).mono ?_; rintro e w' ⟨rfl, rfl⟩))
    go_ret
    exact ⟨rfl, hb1⟩
  · have F : Fold (129600000 - a % 129600000) (-sn a) (cn a) := fold_of (by omega) (by omega) (by simp only [sn_q, cn_q, sn_mirror, cn_mirror, sn_c, cn_c, hs, hc, Int.neg_neg]) (by simp only [sn_q, cn_q, sn_mirror, cn_mirror, sn_c, cn_c, hs, hc, Int.neg_neg])
    clear hs hc
    obtain ⟨b0, b1, x0, x1, y0, y1, k1, k2, k3, k4⟩ := F
    go_enter Try.func4, Try.ntmps4
    go_wp2_with fail
    refine (awake_any _).mono ?_
    rintro e w1 ⟨rfl, hb1⟩
    go_wp2_with (first | (go_at_call 17; refine (norm_any _ _).mono ?_; rintro e w' ⟨rfl, rfl⟩) | (go_at_call 13; refine (sin_any _ _).mono ?_; rintro e w' ⟨rfl, rfl⟩) | (go_at_call 15; refine (cos_any _ _).mono ?_; rintro e w' ⟨rfl, rfl⟩) | (go_at_call 18; refine (real_any _ _ _ (by omega) (by omega) (by omega)).mono ?_; rintro e w' ⟨rfl, rfl⟩) | (go_at_call 19; refine (certified_any _ _ _ _ (by omega) (by omega) (by omega) (by omega)).mono ?_; rintro e w' ⟨rfl, rfl⟩))
    go_ret
    exact ⟨rfl, hb1⟩
end Go.Proofs.Ytdbklfledjaklaa
