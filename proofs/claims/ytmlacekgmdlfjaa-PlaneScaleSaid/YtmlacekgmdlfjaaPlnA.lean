/- Package plane and its reference: validity, rounding; quotients. -/
import Derived.Test.YtmlacekgmdlfjaaScale
import Derived.Test.YtmlacekgmdlfjaaSphU
import Derived.Test.YtmlacekgmdlfjaaSphL
import Derived.Test.YtmlacekgmdlfjaaSphC
namespace Go.Proofs.Ytmlacekgmdlfjaa
open Go.RowKit Go.Joins Fdk
set_option linter.unusedVariables false
abbrev ptV (x y : Int) : Value := .agg #[.int .i64 x, .int .i64 y]
def pvd (a b : Int) : Bool := decide (-2000000 ≤ a) && (decide (a ≤ 2000000) && (decide (-2000000 ≤ b) && decide (b ≤ 2000000)))
theorem pvd_of {a b : Int} (h : pvd a b = true) : (-2000000 ≤ a ∧ a ≤ 2000000) ∧ -2000000 ≤ b ∧ b ≤ 2000000 := by
  simp only [pvd, Bool.and_eq_true, decide_eq_true_eq] at h; omega
theorem pvd_cases (a b : Int) : ((¬ -2000000 ≤ a) ∧ Hid (pvd a b = false)) ∨ (-2000000 ≤ a ∧ (¬ a ≤ 2000000) ∧ Hid (pvd a b = false)) ∨ (-2000000 ≤ a ∧ a ≤ 2000000 ∧ (¬ -2000000 ≤ b) ∧ Hid (pvd a b = false)) ∨
    (-2000000 ≤ a ∧ a ≤ 2000000 ∧ -2000000 ≤ b ∧ (¬ b ≤ 2000000) ∧ Hid (pvd a b = false)) ∨ (-2000000 ≤ a ∧ a ≤ 2000000 ∧ -2000000 ≤ b ∧ b ≤ 2000000 ∧ Hid (pvd a b = true)) := by
  by_cases h1 : -2000000 ≤ a
  · by_cases h2 : a ≤ 2000000
    · by_cases h3 : -2000000 ≤ b
      · by_cases h4 : b ≤ 2000000
        · exact .inr (.inr (.inr (.inr ⟨h1, h2, h3, h4, Lib.hid (by simp [pvd, h1, h2, h3, h4])⟩)))
        · exact .inr (.inr (.inr (.inl ⟨h1, h2, h3, h4, Lib.hid (by simp [pvd, h4])⟩)))
      · exact .inr (.inr (.inl ⟨h1, h2, h3, Lib.hid (by simp [pvd, h3])⟩))
    · exact .inr (.inl ⟨h1, h2, Lib.hid (by simp [pvd, h2])⟩)
  · exact .inl ⟨h1, Lib.hid (by simp [pvd, h1])⟩
theorem pvalid_any (a b : Int) (w : World) :
    Calls Try.prog 12 #[ptV a b] w fun e w' => e = .returned (.bool (pvd a b)) ∧ Below w.heap.size w w' := by
  rcases pvd_cases a b with ⟨h1, hh⟩ | ⟨h1, h2, hh⟩ | ⟨h1, h2, h3, hh⟩ | ⟨h1, h2, h3, h4, hh⟩ | ⟨h1, h2, h3, h4, hh⟩
  all_goals
    go_enter Try.func12, Try.ntmps12
    go_wp2
    go_ret
    exact ⟨ret_b hh.out.symm, by go_grown⟩
theorem rpvalid_any (a b : Int) (w : World) :
    Calls Try.prog 13 #[ptV a b] w fun e w' => e = .returned (.bool (pvd a b)) ∧ Below w.heap.size w w' := by
  rcases pvd_cases a b with ⟨h1, hh⟩ | ⟨h1, h2, hh⟩ | ⟨h1, h2, h3, hh⟩ | ⟨h1, h2, h3, h4, hh⟩ | ⟨h1, h2, h3, h4, hh⟩
  all_goals
    go_enter Try.func13, Try.ntmps13
    go_wp2
    go_ret
    exact ⟨ret_b hh.out.symm, by go_grown⟩
def org (a b : Int) : Bool := vd a b && (decide (-25200000 ≤ a) && decide (a ≤ 25200000))
theorem org_of {a b : Int} (h : org a b = true) : (-25200000 ≤ a ∧ a ≤ 25200000) ∧ -64800000 < b ∧ b ≤ 64800000 := by
  simp only [org, vd, Bool.and_eq_true, decide_eq_true_eq] at h; omega
theorem org_cases (a b : Int) : (vd a b = false ∧ Hid (org a b = false)) ∨ (vd a b = true ∧ (¬ -25200000 ≤ a) ∧ Hid (org a b = false)) ∨ (vd a b = true ∧ -25200000 ≤ a ∧ (¬ a ≤ 25200000) ∧ Hid (org a b = false)) ∨ (vd a b = true ∧ -25200000 ≤ a ∧ a ≤ 25200000 ∧ Hid (org a b = true)) := by
  cases h : vd a b
  · exact .inl ⟨rfl, Lib.hid (by simp [org, h])⟩
  · by_cases h1 : -25200000 ≤ a
    · by_cases h2 : a ≤ 25200000
      · exact .inr (.inr (.inr ⟨rfl, h1, h2, Lib.hid (by simp [org, h, h1, h2])⟩))
      · exact .inr (.inr (.inl ⟨rfl, h1, h2, Lib.hid (by simp [org, h2])⟩))
    · exact .inr (.inl ⟨rfl, h1, Lib.hid (by simp [org, h1])⟩)
theorem isorg_any (a b : Int) (w : World) :
    Calls Try.prog 24 #[posV a b] w fun e w' => e = .returned (.bool (org a b)) ∧ Below w.heap.size w w' := by
  rcases org_cases a b with ⟨h1, hh⟩ | ⟨h1, h2, hh⟩ | ⟨h1, h2, h3, hh⟩ | ⟨h1, h2, h3, hh⟩
  all_goals
    have HV := Lib.hid h1
    clear h1
    go_enter Try.func24, Try.ntmps24
    go_wp2_with fail
    refine (valid_any _ _ _).mono ?_
    rintro e w1 ⟨rfl, hb⟩
    have B := thn (below_alloc1 w _) hb
    have T := (c2_new w (.int .i64 a) (.int .i64 b) 23).next hb
    obtain ⟨t0, t1, t2, t3, tl⟩ := id T
    rw [HV.out]
    go_wp2
    go_ret
    first | exact ⟨ret_b hh.out.symm, B⟩ | exact ⟨ret_b ((decide_eq_false (by omega)).trans hh.out.symm), B⟩
theorem rorg_any (a b : Int) (w : World) :
    Calls Try.prog 31 #[posV a b] w fun e w' => e = .returned (.bool (org a b)) ∧ Below w.heap.size w w' := by
  rcases org_cases a b with ⟨h1, hh⟩ | ⟨h1, h2, hh⟩ | ⟨h1, h2, h3, hh⟩ | ⟨h1, h2, h3, hh⟩
  all_goals
    have HV := Lib.hid h1
    clear h1
    go_enter Try.func31, Try.ntmps31
    go_wp2_with fail
    refine (rvalid_any _ _ _).mono ?_
    rintro e w1 ⟨rfl, hb⟩
    have B := thn (below_alloc1 w _) hb
    have T := (c2_new w (.int .i64 a) (.int .i64 b) 23).next hb
    obtain ⟨t0, t1, t2, t3, tl⟩ := id T
    rw [HV.out]
    go_wp2
    go_ret
    first | exact ⟨ret_b hh.out.symm, B⟩ | exact ⟨ret_b ((decide_eq_false (by omega)).trans hh.out.symm), B⟩
theorem fround_any (a c : Int) (w : World) (h0 : -4611686018427387904 ≤ a) (h1 : a ≤ 4611686018427387904) (c0 : 1 ≤ c) (c1 : c ≤ 9223372036854775807) :
    Calls Try.prog 29 #[.int .i64 a, .int .i64 c] w fun e w' => e = TwoI (qnear a c) 0 ∧ Drew w w' := by
  have i1 : iabs 1 = 1 := by decide
  have hq : Hid (Calls Try.prog 53 #[.int .i64 a, .int .i64 1, .int .i64 c, .int .u8 2] w fun e w' => e = TwoI (qnear (a * 1) c) 0 ∧ Drew w w') := by
    by_cases hs : 0 ≤ a
    · have i2 : iabs a = a := by unfold iabs; rw [if_neg (by omega)]
      have k1 : a / c ≤ a := Int.ediv_le_self _ hs
      exact Lib.hid (scale2_pp a 1 c w (by omega) (by omega) (by omega) (by omega) c0 c1 (by rw [i1, i2]; omega) (by rw [i1, i2, Int.mul_one]; omega) (lt_dec.1 hs) (lt_dec.1 (by omega)) (by rw [i1, i2]))
    · have i2 : iabs a = -a := by unfold iabs; rw [if_pos (by omega)]
      have k1 : -a / c ≤ -a := Int.ediv_le_self _ (by omega)
      exact Lib.hid (scale2_np a 1 c w (by omega) (by omega) (by omega) (by omega) c0 c1 (by rw [i1, i2]; omega) (by rw [i1, i2, Int.mul_one]; omega) (lt_dec.2 (by omega)) (lt_dec.1 (by omega)) (by rw [i1, i2]; omega))
  have e1 : qnear (a * 1) c = qnear a c := by rw [Int.mul_one]
  go_enter Try.func29, Try.ntmps29
  go_wp2_with fail
  refine hq.out.mono ?_
  rintro e w' ⟨rfl, hd⟩
  have HD := Lib.hid hd
  clear hd
  rw [e1]
  go_wp2
  go_ret2
  exact ⟨rfl, HD.out⟩
theorem rfround_any (a c : Int) (w : World) (h0 : -4611686018427387904 ≤ a) (h1 : a ≤ 4611686018427387904) (c0 : 1 ≤ c) (c1 : c ≤ 9223372036854775807) :
    Calls Try.prog 34 #[.int .i64 a, .int .i64 c] w fun e w' => e = TwoI (qnear a c) 0 ∧ w = w' := by
  have i1 : iabs 1 = 1 := by decide
  have hq : Hid (Calls Try.prog 56 #[.int .i64 a, .int .i64 1, .int .i64 c, .int .i64 2] w fun e w' => e = TwoI (qnear (a * 1) c) 0 ∧ w = w') := by
    by_cases hs : 0 ≤ a
    · have i2 : iabs a = a := by unfold iabs; rw [if_neg (by omega)]
      have k1 : a / c ≤ a := Int.ediv_le_self _ hs
      exact Lib.hid (quot2_pp a 1 c w (by omega) (by omega) (by omega) (by omega) c0 c1 (by rw [i1, i2, Int.mul_one]; omega) (lt_dec.1 hs) (lt_dec.1 (by omega)) (by rw [i1, i2]))
    · have i2 : iabs a = -a := by unfold iabs; rw [if_pos (by omega)]
      have k1 : -a / c ≤ -a := Int.ediv_le_self _ (by omega)
      exact Lib.hid (quot2_np a 1 c w (by omega) (by omega) (by omega) (by omega) c0 c1 (by rw [i1, i2, Int.mul_one]; omega) (lt_dec.2 (by omega)) (lt_dec.1 (by omega)) (by rw [i1, i2]; omega))
  have e1 : qnear (a * 1) c = qnear a c := by rw [Int.mul_one]
  go_enter Try.func34, Try.ntmps34
  go_wp2_with fail
  refine hq.out.mono ?_
  rintro e w' ⟨rfl, rfl⟩
  rw [e1]
  go_wp2
  go_ret2
  exact ⟨rfl, rfl⟩
/-- Radian b / c, rounded. -/
theorem mdr_any (b c : Int) (w : World) (h0 : -1073741836 ≤ b) (h1 : b ≤ 1073741836) (c0 : 1 ≤ c) (c1 : c ≤ 1073741836) :
    Calls Try.prog 39 #[.int .i64 20626481, .int .i64 b, .int .i64 c] w fun e w' => e = TwoI (qnear (20626481 * b) c) 0 ∧ Drew w w' := by
  have i1 : iabs 20626481 = 20626481 := by decide
  have hq : Hid (Calls Try.prog 53 #[.int .i64 20626481, .int .i64 b, .int .i64 c, .int .u8 2] w fun e w' => e = TwoI (qnear (20626481 * b) c) 0 ∧ Drew w w') := by
    by_cases hs : 0 ≤ b
    · have i2 : iabs b = b := by unfold iabs; rw [if_neg (by omega)]
      have k1 : 20626481 * b / c ≤ 20626481 * b := Int.ediv_le_self _ (by omega)
      exact Lib.hid (scale2_pp 20626481 b c w (by omega) (by omega) (by omega) (by omega) c0 (by omega) (by rw [i1, i2]; omega) (by rw [i1, i2]; omega) (lt_dec.1 (by omega)) (lt_dec.1 (by omega)) (by rw [i1, i2]))
    · have i2 : iabs b = -b := by unfold iabs; rw [if_pos (by omega)]
      have k1 : 20626481 * -b / c ≤ 20626481 * -b := Int.ediv_le_self _ (by omega)
      exact Lib.hid (scale2_pn 20626481 b c w (by omega) (by omega) (by omega) (by omega) c0 (by omega) (by rw [i1, i2]; omega) (by rw [i1, i2]; omega) (lt_dec.1 (by omega)) (lt_dec.2 (by omega)) (by rw [i1, i2]; omega))
  go_enter Try.func39, Try.ntmps39
  go_wp2_with fail
  refine hq.out.mono ?_
  rintro e w' ⟨rfl, hd⟩
  have HD := Lib.hid hd
  clear hd
  go_wp2
  go_ret2
  exact ⟨rfl, HD.out⟩
end Go.Proofs.Ytmlacekgmdlfjaa
