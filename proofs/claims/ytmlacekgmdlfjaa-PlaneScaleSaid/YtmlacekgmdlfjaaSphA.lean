/- Package sphere and its reference: rounding, validity, vectors of positions. -/
import Derived.Test.YtmlacekgmdlfjaaTrigX
import Derived.Test.YtmlacekgmdlfjaaTrigY
import Derived.Test.YtmlacekgmdlfjaaCells
import Derived.Lib.SmallJoins
import Derived.Handy
import Derived.Deep.RegionHeld
import Derived.Deep.QuietTactic
import Derived.BigQuiet
import Derived.WalkSmall
namespace Go.Proofs.Ytmlacekgmdlfjaa
open Go.RowKit Go.Joins Fdk
set_option linter.unusedVariables false

theorem ret_b {a b : Bool} (h : a = b) : Ending.returned (.bool a) = .returned (.bool b) := by rw [h]
abbrev posV (a b : Int) : Value := .agg #[.int .i64 a, .int .i64 b]
abbrev vecV (x y z : Int) : Value := .agg #[.int .i64 x, .int .i64 y, .int .i64 z]
/-- a product without its scale. -/
def rd (x : Int) : Int := (x + 536870912) / 1073741824
theorem rd_b {x : Int} (h0 : -1152921504606846976 ≤ x) (h1 : x ≤ 1152921504606846976) : -1073741824 ≤ rd x ∧ rd x ≤ 1073741824 := by unfold rd; omega
theorem round_any (x : Int) (w : World) (h0 : -9223372036317904896 ≤ x) (h1 : x ≤ 9223372036317904895) :
    Calls Try.prog 43 #[.int .i64 x] w fun e w' => e = .returned (.int .i64 (rd x)) ∧ w = w' := by
  go_enter Try.func43, Try.ntmps43
  go_wp2
  go_ret
  exact ⟨rfl, rfl⟩
theorem rround_any (x : Int) (w : World) (h0 : -9223372036317904896 ≤ x) (h1 : x ≤ 9223372036317904895) :
    Calls Try.prog 55 #[.int .i64 x] w fun e w' => e = .returned (.int .i64 (rd x)) ∧ w = w' := by
  go_enter Try.func55, Try.ntmps55
  go_wp2
  go_ret
  exact ⟨rfl, rfl⟩
def vd (a b : Int) : Bool := decide (-32400000 ≤ a) && (decide (a ≤ 32400000) && (decide (-64800000 < b) && decide (b ≤ 64800000)))
theorem vd_of {a b : Int} (h : vd a b = true) : (-32400000 ≤ a ∧ a ≤ 32400000) ∧ -64800000 < b ∧ b ≤ 64800000 := by
  simp only [vd, Bool.and_eq_true, decide_eq_true_eq] at h; omega
theorem vd_cases (a b : Int) : ((¬ -32400000 ≤ a) ∧ Hid (vd a b = false)) ∨ (-32400000 ≤ a ∧ (¬ a ≤ 32400000) ∧ Hid (vd a b = false)) ∨ (-32400000 ≤ a ∧ a ≤ 32400000 ∧ (¬ -64800000 < b) ∧ Hid (vd a b = false)) ∨
    (-32400000 ≤ a ∧ a ≤ 32400000 ∧ -64800000 < b ∧ (¬ b ≤ 64800000) ∧ Hid (vd a b = false)) ∨ (-32400000 ≤ a ∧ a ≤ 32400000 ∧ -64800000 < b ∧ b ≤ 64800000 ∧ Hid (vd a b = true)) := by
  by_cases h1 : -32400000 ≤ a
  · by_cases h2 : a ≤ 32400000
    · by_cases h3 : -64800000 < b
      · by_cases h4 : b ≤ 64800000
        · exact .inr (.inr (.inr (.inr ⟨h1, h2, h3, h4, Lib.hid (by simp [vd, h1, h2, h3, h4])⟩)))
        · exact .inr (.inr (.inr (.inl ⟨h1, h2, h3, h4, Lib.hid (by simp [vd, h4])⟩)))
      · exact .inr (.inr (.inl ⟨h1, h2, h3, Lib.hid (by simp [vd, h3])⟩))
    · exact .inr (.inl ⟨h1, h2, Lib.hid (by simp [vd, h2])⟩)
  · exact .inl ⟨h1, Lib.hid (by simp [vd, h1])⟩
theorem valid_any (a b : Int) (w : World) :
    Calls Try.prog 18 #[posV a b] w fun e w' => e = .returned (.bool (vd a b)) ∧ Below w.heap.size w w' := by
  rcases vd_cases a b with ⟨h1, hh⟩ | ⟨h1, h2, hh⟩ | ⟨h1, h2, h3, hh⟩ | ⟨h1, h2, h3, h4, hh⟩ | ⟨h1, h2, h3, h4, hh⟩
  all_goals
    go_enter Try.func18, Try.ntmps18
    go_wp2
    go_ret
    exact ⟨ret_b hh.out.symm, by go_grown⟩
theorem rvalid_any (a b : Int) (w : World) :
    Calls Try.prog 40 #[posV a b] w fun e w' => e = .returned (.bool (vd a b)) ∧ Below w.heap.size w w' := by
  rcases vd_cases a b with ⟨h1, hh⟩ | ⟨h1, h2, hh⟩ | ⟨h1, h2, h3, hh⟩ | ⟨h1, h2, h3, h4, hh⟩ | ⟨h1, h2, h3, h4, hh⟩
  all_goals
    go_enter Try.func40, Try.ntmps40
    go_wp2
    go_ret
    exact ⟨ret_b hh.out.symm, by go_grown⟩
/-- the product of two numbers of at most One in size. -/
theorem one_b {x y : Int} (h0 : -1073741824 ≤ x) (h1 : x ≤ 1073741824) (h2 : -1073741824 ≤ y) (h3 : y ≤ 1073741824) : -1152921504606846976 ≤ x * y ∧ x * y ≤ 1152921504606846976 := by
  rcases Int.le_total 0 x with k | k
  · have k1 : x * y ≤ x * 1073741824 := Int.mul_le_mul_of_nonneg_left h3 k
    have k2 : x * -1073741824 ≤ x * y := Int.mul_le_mul_of_nonneg_left h2 k
    omega
  · have k1 : -x * y ≤ -x * 1073741824 := Int.mul_le_mul_of_nonneg_left h3 (by omega)
    have k2 : -x * -1073741824 ≤ -x * y := Int.mul_le_mul_of_nonneg_left h2 (by omega)
    have e : -x * y = -(x * y) := Int.neg_mul x y
    omega
theorem cc_b (a b : Int) : -1152921504606846976 ≤ cn a * cn b ∧ cn a * cn b ≤ 1152921504606846976 := one_b (cn_b a).1 (cn_b a).2 (cn_b b).1 (cn_b b).2
theorem cs_b (a b : Int) : -1152921504606846976 ≤ cn a * sn b ∧ cn a * sn b ≤ 1152921504606846976 := one_b (cn_b a).1 (cn_b a).2 (sn_b b).1 (sn_b b).2
theorem sc_b (a b : Int) : -1152921504606846976 ≤ sn a * cn b ∧ sn a * cn b ≤ 1152921504606846976 := one_b (sn_b a).1 (sn_b a).2 (cn_b b).1 (cn_b b).2
theorem ss_b (a b : Int) : -1152921504606846976 ≤ sn a * sn b ∧ sn a * sn b ≤ 1152921504606846976 := one_b (sn_b a).1 (sn_b a).2 (sn_b b).1 (sn_b b).2
set_option maxHeartbeats 1600000 in
theorem of_any (a b : Int) (w : World) :
    Calls Try.prog 42 #[posV a b] w fun e w' => e = .returned (vecV (rd (cn a * cn b)) (rd (cn a * sn b)) (sn a)) ∧ Below w.heap.size w w' := by
  have ⟨p0, p1⟩ := cc_b a b
  have ⟨q0, q1⟩ := cs_b a b
  have e1 : IntKind.i64.wrap (cn a * cn b) = cn a * cn b := IntWalk.i64_in _ (by omega)
  have e2 : IntKind.i64.wrap (cn a * sn b) = cn a * sn b := IntWalk.i64_in _ (by omega)
  go_enter Try.func42, Try.ntmps42
  go_wp2_with (first | (go_at_call 27; refine (cos_any _ _).mono ?_; rintro e w' ⟨rfl, rfl⟩))
  go_region_held (fun w' => w'.cell? ⟨w.heap.size, 0, none⟩ = some (.int .i64 a) ∧ w'.cell? ⟨w.heap.size, 1, none⟩ = some (.int .i64 b)) (go_keep)
    (first | (go_at_call 27; refine (cos_any _ _).mono ?_; rintro e w' ⟨rfl, rfl⟩) | (go_at_call 26; refine (sin_any _ _).mono ?_; rintro e w' ⟨rfl, rfl⟩) | (go_at_call 43; refine (round_any _ _ (by omega) (by omega)).mono ?_; rintro e w' ⟨rfl, rfl⟩))
  go_wp2
  exact bodyPost_ret (v := vecV (rd (cn a * cn b)) (rd (cn a * sn b)) (sn a)) (by simp [results, Try.results42, go_sem, *]) rfl ⟨rfl, by go_grown⟩
abbrev V4 (c : Int × Int × Int × Int) : Ending := .returned (.tuple #[vecV c.1 c.2.1 c.2.2.1, .int .i64 c.2.2.2])
theorem v4 {c d : Int × Int × Int × Int} (h : c = d) : V4 c = V4 d := by rw [h]
/-- the vector of a position, and the error. -/
def ofv (a b : Int) : Int × Int × Int × Int := if vd a b then (rd (cn a * cn b), rd (cn a * sn b), sn a, 0) else (0, 0, 0, 1)
set_option maxHeartbeats 1600000 in
theorem Of_any (a b : Int) (w : World) :
    Calls Try.prog 25 #[posV a b] w fun e w' => e = V4 (ofv a b) ∧ Below w.heap.size w w' := by
  cases h1 : vd a b
  · have hh := Lib.hid (show ofv a b = (0, 0, 0, 1) by simp [ofv, h1])
    go_enter Try.func25, Try.ntmps25
    go_wp2_with fail
    refine (valid_any _ _ _).mono ?_
    rintro e w1 ⟨rfl, hb⟩
    have B := thn (below_alloc2 w _ _) hb
    have Z := (c3_new _ (.int .i64 0) (.int .i64 0) (.int .i64 0) 44).next hb
    simp only [World.alloc, Array.size_push] at Z
    obtain ⟨z0, z1, z2, f0, f1, f2, l⟩ := id Z
    rw [h1]
    go_wp2
    exact bodyPost_ret (v := .tuple #[vecV 0 0 0, .int .i64 1]) (by simp [results, Try.results25, go_sem, *]) rfl ⟨v4 hh.out.symm, below_put3 B (b := w.heap.size + 1) (Nat.le_succ _) _ _ _⟩
  · have hh := Lib.hid (show ofv a b = (rd (cn a * cn b), rd (cn a * sn b), sn a, 0) by simp [ofv, h1])
    go_enter Try.func25, Try.ntmps25
    go_wp2_with fail
    refine (valid_any _ _ _).mono ?_
    rintro e w1 ⟨rfl, hb⟩
    have B := thn (below_alloc2 w _ _) hb
    have T := ((c2_new w (.int .i64 a) (.int .i64 b) 23).alc _).next hb
    have Z := (c3_new _ (.int .i64 0) (.int .i64 0) (.int .i64 0) 44).next hb
    simp only [World.alloc, Array.size_push] at Z
    obtain ⟨c0, c1, g0, g1, l0⟩ := id T
    rw [h1]
    go_wp2_with fail
    refine (of_any _ _ _).mono ?_
    rintro e w2 ⟨rfl, hb2⟩
    replace B := thn B hb2
    replace Z := Z.next hb2
    clear c0 c1 g0 g1 l0
    obtain ⟨z0, z1, z2, f0, f1, f2, l⟩ := id Z
    go_wp2
    exact bodyPost_ret (v := .tuple #[vecV (rd (cn a * cn b)) (rd (cn a * sn b)) (sn a), .int .i64 0]) (by simp [results, Try.results25, go_sem, *]) rfl ⟨v4 hh.out.symm, below_put3 B (b := w.heap.size + 1) (Nat.le_succ _) _ _ _⟩
set_option maxHeartbeats 1600000 in
theorem dot_any (x y z p q r : Int) (w : World) (m0 : -3458764513820540928 ≤ x * p + y * q + z * r) (m1 : x * p + y * q + z * r ≤ 3458764513820540928) (h1 : -2305843009213693952 ≤ x * p ∧ x * p ≤ 2305843009213693952) (h2 : -2305843009213693952 ≤ y * q ∧ y * q ≤ 2305843009213693952) (h3 : -2305843009213693952 ≤ z * r ∧ z * r ≤ 2305843009213693952) :
    Calls Try.prog 47 #[vecV x y z, vecV p q r] w fun e w' => e = .returned (.int .i64 (rd (x * p + y * q + z * r))) ∧ Below w.heap.size w w' := by
  go_enter Try.func47, Try.ntmps47
  go_wp2_with (first | (go_at_call 43; refine (round_any _ _ (by omega) (by omega)).mono ?_; rintro e w' ⟨rfl, rfl⟩))
  go_ret
  exact ⟨rfl, by go_grown⟩
set_option maxHeartbeats 1600000 in
theorem rdot_any (x y z p q r : Int) (w : World) (m0 : -3458764513820540928 ≤ x * p + y * q + z * r) (m1 : x * p + y * q + z * r ≤ 3458764513820540928) (h1 : -2305843009213693952 ≤ x * p ∧ x * p ≤ 2305843009213693952) (h2 : -2305843009213693952 ≤ y * q ∧ y * q ≤ 2305843009213693952) (h3 : -2305843009213693952 ≤ z * r ∧ z * r ≤ 2305843009213693952) :
    Calls Try.prog 64 #[vecV x y z, vecV p q r] w fun e w' => e = .returned (.int .i64 (rd (x * p + y * q + z * r))) ∧ Below w.heap.size w w' := by
  go_enter Try.func64, Try.ntmps64
  go_wp2_with (first | (go_at_call 55; refine (rround_any _ _ (by omega) (by omega)).mono ?_; rintro e w' ⟨rfl, rfl⟩))
  go_ret
  exact ⟨rfl, by go_grown⟩
theorem signed_any (a : Int) (w : World) : Calls Try.prog 54 #[.int .i64 a] w fun e w' => e = .returned (.int .i64 (adiff 0 a)) ∧ w = w' := by
  go_enter Try.func54, Try.ntmps54
  go_wp2_with (first | (go_at_call 74; refine (diff_any _ _ _).mono ?_; rintro e w' ⟨rfl, rfl⟩))
  go_ret
  exact ⟨rfl, rfl⟩
theorem rsigned_any (a : Int) (w : World) : Calls Try.prog 62 #[.int .i64 a] w fun e w' => e = .returned (.int .i64 (adiff 0 a)) ∧ w = w' := by
  go_enter Try.func62, Try.ntmps62
  go_wp2_with (first | (go_at_call 82; refine (rdiff_any _ _ _).mono ?_; rintro e w' ⟨rfl, rfl⟩))
  go_ret
  exact ⟨rfl, rfl⟩
end Go.Proofs.Ytmlacekgmdlfjaa
