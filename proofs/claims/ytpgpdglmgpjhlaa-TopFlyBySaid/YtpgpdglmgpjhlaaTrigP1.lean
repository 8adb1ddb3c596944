/- Plain facts on the sine and cosine series and their inverses: no program in sight (A). -/
namespace Fdk
set_option linter.unusedVariables false
def mul31 (x y : Int) : Int := (x * y + 1073741824) / 2147483648
def sdv (x n : Int) : Int := (x + n / 2) / n
def nx (u r n : Int) : Int := 2147483648 - sdv (mul31 u r) n
def rs (u : Int) : Int := nx u (nx u (nx u (nx u (2147483648 - sdv u 110) 72) 42) 20) 6
def rc (u : Int) : Int := nx u (nx u (nx u (nx u (2147483648 - sdv u 90) 56) 30) 12) 2
def tq (a : Int) : Int := (a * 6746518852 + 32400000) / 64800000
def uq (a : Int) : Int := mul31 (tq a) (tq a)
def sine (a : Int) : Int := (mul31 (tq a) (rs (uq a)) + 1) / 2
def cosine (a : Int) : Int := (rc (uq a) + 1) / 2
def qsin (a : Int) : Int := if a ≤ 16200000 then sine a else cosine (32400000 - a)
def sn (a : Int) : Int :=
  if a % 129600000 ≤ 32400000 then qsin (a % 129600000)
  else if a % 129600000 ≤ 64800000 then qsin (64800000 - a % 129600000)
  else if a % 129600000 ≤ 97200000 then - qsin (a % 129600000 - 64800000)
  else - qsin (129600000 - a % 129600000)

theorem prod (u1 u2 r1 r2 : Int) (h0 : 0 ≤ u1) (h1 : u1 ≤ u2) (h2 : u2 ≤ 1324700000) (h3 : 1324700000 ≤ r2) (h4 : r2 ≤ r1) (h5 : r1 ≤ 2147483648) (h6 : r1 - r2 ≤ u2 - u1) :
    0 ≤ u1 * r1 ∧ u1 * r1 ≤ u2 * r2 ∧ u2 * r2 ≤ u1 * r1 + 2147483648 * (u2 - u1) ∧ u2 * r2 ≤ 2147483648 * u2 ∧ u1 * r1 ≤ 2147483648 * u1 := by
  have a1 : 0 ≤ u1 * r1 := Int.mul_nonneg h0 (by omega)
  have a2 : 0 ≤ (u2 - u1) * (r2 - u1) := Int.mul_nonneg (by omega) (by omega)
  have a3 : 0 ≤ u1 * ((u2 - u1) - (r1 - r2)) := Int.mul_nonneg h0 (by omega)
  have a4 : 0 ≤ u2 * (r1 - r2) := Int.mul_nonneg (by omega) (by omega)
  have a5 : 0 ≤ (u2 - u1) * (2147483648 - r1) := Int.mul_nonneg (by omega) (by omega)
  have a6 : 0 ≤ u2 * (2147483648 - r2) := Int.mul_nonneg (by omega) (by omega)
  have a7 : 0 ≤ u1 * (2147483648 - r1) := Int.mul_nonneg (by omega) (by omega)
  refine ⟨a1, by grind, by grind, by grind, by grind⟩

/-- what one step of the series keeps of two arguments. -/
structure Two (u1 u2 r1 r2 : Int) : Prop where
  lo : 1324700000 ≤ r2
  le : r2 ≤ r1
  hi : r1 ≤ 2147483648
  gap : r1 - r2 ≤ u2 - u1

theorem two0 {n u1 u2 : Int} (hn : n = 110 ∨ n = 90) (h0 : 0 ≤ u1) (h1 : u1 ≤ u2) (h2 : u2 ≤ 1324700000) : Two u1 u2 (2147483648 - sdv u1 n) (2147483648 - sdv u2 n) := by
  rcases hn with rfl | rfl <;> (constructor <;> simp only [sdv] <;> omega)
theorem two1 {n u1 u2 r1 r2 : Int} (hn : n = 72 ∨ n = 42 ∨ n = 20 ∨ n = 56 ∨ n = 30 ∨ n = 12 ∨ n = 2 ∨ n = 6) (h0 : 0 ≤ u1) (h1 : u1 ≤ u2) (h2 : u2 ≤ 1324700000) (h : Two u1 u2 r1 r2) : Two u1 u2 (nx u1 r1 n) (nx u2 r2 n) := by
  obtain ⟨p0, p1, p2, p3, p4⟩ := prod u1 u2 r1 r2 h0 h1 h2 h.lo h.le h.hi h.gap
  rcases hn with rfl | rfl | rfl | rfl | rfl | rfl | rfl | rfl <;> (constructor <;> simp only [nx, sdv, mul31] <;> omega)

theorem tq_b {a : Int} (h0 : 0 ≤ a) (h1 : a ≤ 16200000) : 0 ≤ tq a ∧ tq a ≤ 1686629713 := by
  simp only [tq]; omega
theorem tq_gap {a b : Int} (h : a ≤ b) : tq a + 104 * (b - a) ≤ tq b ∧ tq b ≤ tq a + 105 * (b - a) := by
  simp only [tq]; omega
theorem sq_b {t : Int} (h0 : 0 ≤ t) (h1 : t ≤ 1686629713) : 0 ≤ t * t ∧ t * t ≤ 2844719788774462369 := by
  have a1 : 0 ≤ t * t := Int.mul_nonneg h0 h0
  have a2 : t * t ≤ 1686629713 * 1686629713 := Int.mul_le_mul h1 h1 h0 (by omega)
  exact ⟨a1, by omega⟩
theorem uq_b {a : Int} (h0 : 0 ≤ a) (h1 : a ≤ 16200000) : 0 ≤ uq a ∧ uq a ≤ 1324700000 := by
  have t := tq_b h0 h1
  have s := sq_b t.1 t.2
  simp only [uq, mul31]; omega
theorem uq_gap {a b : Int} (h0 : 0 ≤ a) (h : a ≤ b) (h1 : b ≤ 16200000) : uq a ≤ uq b ∧ (uq b - uq a) * 2147483648 ≤ (tq b - tq a) * 3373259426 + 2147483648 := by
  have ta := tq_b h0 (by omega); have tb := tq_b (by omega) h1
  have g := (tq_gap h).1
  have k1 : 0 ≤ (tq b - tq a) * (tq b + tq a) := Int.mul_nonneg (by omega) (by omega)
  have k2 : 0 ≤ (tq b - tq a) * (3373259426 - (tq b + tq a)) := Int.mul_nonneg (by omega) (by omega)
  have e : (tq b - tq a) * (tq b + tq a) = tq b * tq b - tq a * tq a := by grind
  have e2 : (tq b - tq a) * (3373259426 - (tq b + tq a)) = (tq b - tq a) * 3373259426 - (tq b * tq b - tq a * tq a) := by grind
  rw [e] at k1; rw [e2] at k2
  simp only [uq, mul31]; omega

theorem rc_two {u1 u2 : Int} (h0 : 0 ≤ u1) (h1 : u1 ≤ u2) (h2 : u2 ≤ 1324700000) : Two u1 u2 (rc u1) (rc u2) := by
  unfold rc
  exact two1 (by simp) h0 h1 h2 (two1 (by simp) h0 h1 h2 (two1 (by simp) h0 h1 h2 (two1 (by simp) h0 h1 h2 (two0 (by simp) h0 h1 h2))))
/-- the last step of the sine series, with the finer gap. -/
theorem rs_two {u1 u2 : Int} (h0 : 0 ≤ u1) (h1 : u1 ≤ u2) (h2 : u2 ≤ 1324700000) : Two u1 u2 (rs u1) (rs u2) ∧ (rs u1 - rs u2) * 6 ≤ u2 - u1 + 5 ∧ 1926000000 ≤ rs u2 := by
  unfold rs
  have h := two1 (n := 20) (by simp) h0 h1 h2 (two1 (n := 42) (by simp) h0 h1 h2 (two1 (n := 72) (by simp) h0 h1 h2 (two0 (n := 110) (by simp) h0 h1 h2)))
  refine ⟨two1 (by simp) h0 h1 h2 h, ?_⟩
  obtain ⟨p0, p1, p2, p3, p4⟩ := prod _ _ _ _ h0 h1 h2 h.lo h.le h.hi h.gap
  revert p0 p1 p2 p3 p4
  generalize nx u1 (nx u1 (nx u1 (2147483648 - sdv u1 110) 72) 42) 20 = r1
  generalize nx u2 (nx u2 (nx u2 (2147483648 - sdv u2 110) 72) 42) 20 = r2
  intro p0 p1 p2 p3 p4
  simp only [nx, sdv, mul31]
  omega

theorem cos_mono {a b : Int} (h0 : 0 ≤ a) (h : a ≤ b) (h1 : b ≤ 16200000) : cosine b ≤ cosine a := by
  have t := rc_two (uq_b h0 (by omega)).1 (uq_gap h0 h h1).1 (uq_b (by omega) h1).2
  have := t.le
  simp only [cosine]; omega
theorem sine_mono {a b : Int} (h0 : 0 ≤ a) (h : a < b) (h1 : b ≤ 16200000) : sine a + 30 ≤ sine b := by
  obtain ⟨⟨l, le, hi, g⟩, g6, l6⟩ := rs_two (uq_b h0 (by omega)).1 (uq_gap h0 (Int.le_of_lt h) h1).1 (uq_b (by omega) h1).2
  have gu := (uq_gap h0 (Int.le_of_lt h) h1).2
  have gt := (tq_gap (Int.le_of_lt h)).1
  have ta := tq_b h0 (by omega); have tb := tq_b (by omega) h1
  simp only [sine, mul31]
  revert l le hi g g6 l6 gu gt ta tb
  generalize rs (uq a) = r1
  generalize rs (uq b) = r2
  generalize uq a = u1
  generalize uq b = u2
  generalize tq a = t1
  generalize tq b = t2
  intro l le hi g g6 l6 gu gt ta tb
  have k1 : 0 ≤ (t2 - t1) * (r2 - 1926000000) := Int.mul_nonneg (by omega) (by omega)
  have k2 : 0 ≤ (1686629713 - t1) * (r1 - r2) := Int.mul_nonneg (by omega) (by omega)
  have e1 : (t2 - t1) * (r2 - 1926000000) = t2 * r2 - t1 * r2 - (t2 - t1) * 1926000000 := by grind
  have e2 : (1686629713 - t1) * (r1 - r2) = 1686629713 * (r1 - r2) - (t1 * r1 - t1 * r2) := by grind
  rw [e1] at k1; rw [e2] at k2
  generalize t1 * r2 = P at *
  generalize t2 * r2 = P2 at *
  generalize t1 * r1 = P1 at *
  omega

theorem sine_b {a : Int} (h0 : 0 ≤ a) (h1 : a ≤ 16200000) : 0 ≤ sine a ∧ sine a ≤ 759250125 := by
  have z : sine 0 = 0 := by decide +kernel
  have e : sine 16200000 = 759250125 := by decide +kernel
  refine ⟨?_, ?_⟩
  · by_cases h : 0 < a
    · have := sine_mono (Int.le_refl 0) h h1; omega
    · obtain rfl : a = 0 := by omega
      omega
  · by_cases h : a < 16200000
    · have := sine_mono h0 h (Int.le_refl _); omega
    · obtain rfl : a = 16200000 := by omega
      omega
theorem cosine_b {a : Int} (h0 : 0 ≤ a) (h1 : a ≤ 16200000) : 759250125 ≤ cosine a ∧ cosine a ≤ 1073741824 := by
  have z : cosine 0 = 1073741824 := by decide +kernel
  have e : 759250125 ≤ cosine 16200000 := by decide +kernel
  have := cos_mono h0 h1 (Int.le_refl _)
  have := cos_mono (Int.le_refl _) h0 h1
  omega
theorem qsin_b {a : Int} (h0 : 0 ≤ a) (h1 : a ≤ 32400000) : 0 ≤ qsin a ∧ qsin a ≤ 1073741824 := by
  unfold qsin; split
  · have := sine_b h0 (by assumption); omega
  · have := cosine_b (a := 32400000 - a) (by omega) (by omega); omega
theorem qsin_mono {a b : Int} (h0 : 0 ≤ a) (h : a ≤ b) (h1 : b ≤ 32400000) : qsin a ≤ qsin b := by
  by_cases e : a = b
  · subst e; exact Int.le_refl _
  unfold qsin; split <;> split
  · have := sine_mono (a := a) (b := b) h0 (by omega) (by omega); omega
  · have := sine_b h0 (by assumption); have := cosine_b (a := 32400000 - b) (by omega) (by omega); omega
  · omega
  · exact cos_mono (by omega) (by omega) (by omega)
theorem qsin_rise {a b : Int} (h0 : 0 ≤ a) (h : a < b) (h1 : b ≤ 16200000) : qsin a + 30 ≤ qsin b := by
  unfold qsin; rw [if_pos (by omega), if_pos (by omega)]; exact sine_mono h0 h h1
theorem qsin_0 : qsin 0 = 0 := by decide +kernel
theorem qsin_q : qsin 32400000 = 1073741824 := by decide +kernel

theorem sn_mod (a : Int) : sn (a % 129600000) = sn a := by
  unfold sn; rw [Int.emod_emod_of_dvd _ (Int.dvd_refl _)]
theorem sn_of {a b : Int} (h : a % 129600000 = b % 129600000) : sn a = sn b := by
  rw [← sn_mod a, ← sn_mod b, h]
theorem sn_1 {a : Int} (h0 : 0 ≤ a) (h1 : a ≤ 32400000) : sn a = qsin a := by
  have e : a % 129600000 = a := by omega
  unfold sn; rw [e, if_pos h1]
theorem sn_2 {a : Int} (h0 : 32400000 ≤ a) (h1 : a ≤ 64800000) : sn a = qsin (64800000 - a) := by
  have e : a % 129600000 = a := by omega
  unfold sn; rw [e]
  by_cases h : a = 32400000
  · subst h; rfl
  · rw [if_neg (by omega), if_pos h1]
theorem sn_3 {a : Int} (h0 : 64800000 ≤ a) (h1 : a ≤ 97200000) : sn a = - qsin (a - 64800000) := by
  have e : a % 129600000 = a := by omega
  unfold sn; rw [e]
  by_cases h : a = 64800000
  · subst h; rw [if_neg (by omega), if_pos (by omega)]; simp [qsin_0]
  · rw [if_neg (by omega), if_neg (by omega), if_pos h1]
theorem sn_4 {a : Int} (h0 : 97200000 ≤ a) (h1 : a ≤ 129600000) : sn a = - qsin (129600000 - a) := by
  by_cases h : a = 129600000
  · subst h; rw [sn_of (b := 0) (by omega), sn_1 (by omega) (by omega)]; simp [qsin_0]
  have e : a % 129600000 = a := by omega
  unfold sn; rw [e]
  by_cases h : a = 97200000
  · subst h; rfl
  · rw [if_neg (by omega), if_neg (by omega), if_neg (by omega)]
/-- every angle has one of four places. -/
theorem quad (a : Int) : ∃ b : Int, a % 129600000 = b ∧ ((0 ≤ b ∧ b ≤ 32400000) ∨ (32400000 ≤ b ∧ b ≤ 64800000) ∨ (64800000 ≤ b ∧ b ≤ 97200000) ∨ (97200000 ≤ b ∧ b < 129600000)) := ⟨_, rfl, by omega⟩
theorem sn_neg (a : Int) : sn (-a) = - sn a := by
  rw [← sn_mod a]
  obtain ⟨b, hb, h⟩ := quad a
  rw [hb, sn_of (a := -a) (b := 129600000 - b) (by omega)]
  rcases h with h | h | h | h
  · rw [sn_1 h.1 h.2, sn_4 (by omega) (by omega)]; congr 2; omega
  · rw [sn_2 h.1 h.2, sn_3 (by omega) (by omega)]; congr 2; omega
  · rw [sn_3 h.1 h.2, sn_2 (by omega) (by omega), Int.neg_neg]; congr 1; omega
  · rw [sn_4 h.1 (by omega), sn_1 (by omega) (by omega), Int.neg_neg]
theorem sn_half (a : Int) : sn (a + 64800000) = - sn a := by
  rw [← sn_mod a]
  obtain ⟨b, hb, h⟩ := quad a
  rw [hb]
  rcases h with h | h | h | h
  · rw [sn_of (b := b + 64800000) (by omega), sn_1 h.1 h.2, sn_3 (by omega) (by omega)]; congr 2; omega
  · rw [sn_of (b := b + 64800000) (by omega), sn_2 h.1 h.2, sn_4 (by omega) (by omega)]; congr 2; omega
  · rw [sn_of (b := b - 64800000) (by omega), sn_3 h.1 h.2, sn_1 (by omega) (by omega), Int.neg_neg]
  · rw [sn_of (b := b - 64800000) (by omega), sn_4 h.1 (by omega), sn_2 (by omega) (by omega), Int.neg_neg]; congr 1; omega
theorem sn_mirror (a : Int) : sn (64800000 - a) = sn a := by
  have : sn (64800000 - a) = sn (-a + 64800000) := by congr 1; omega
  rw [this, sn_half, sn_neg, Int.neg_neg]
theorem sn_b (a : Int) : -1073741824 ≤ sn a ∧ sn a ≤ 1073741824 := by
  rw [← sn_mod a]
  obtain ⟨b, hb, h⟩ := quad a
  rw [hb]
  rcases h with h | h | h | h
  · rw [sn_1 h.1 h.2]; have := qsin_b h.1 h.2; omega
  · rw [sn_2 h.1 h.2]; have := qsin_b (a := 64800000 - b) (by omega) (by omega); omega
  · rw [sn_3 h.1 h.2]; have := qsin_b (a := b - 64800000) (by omega) (by omega); omega
  · rw [sn_4 h.1 (by omega)]; have := qsin_b (a := 129600000 - b) (by omega) (by omega); omega
theorem sn_mono {a b : Int} (h0 : -32400000 ≤ a) (h : a ≤ b) (h1 : b ≤ 32400000) : sn a ≤ sn b := by
  by_cases ha : 0 ≤ a
  · rw [sn_1 ha (by omega), sn_1 (by omega) h1]; exact qsin_mono ha h h1
  · have ea : sn a = - qsin (-a) := by rw [← sn_1 (by omega) (by omega), sn_neg, Int.neg_neg]
    by_cases hb : 0 ≤ b
    · rw [ea, sn_1 hb h1]
      have := qsin_b (a := -a) (by omega) (by omega); have := qsin_b hb h1; omega
    · have eb : sn b = - qsin (-b) := by rw [← sn_1 (by omega) (by omega), sn_neg, Int.neg_neg]
      rw [ea, eb]; have := qsin_mono (a := -b) (b := -a) (by omega) (by omega) (by omega); omega
theorem sn_rise {a b : Int} (h0 : -16200000 ≤ a) (h : a < b) (h1 : b ≤ 16200000) : sn a + 30 ≤ sn b := by
  by_cases ha : 0 ≤ a
  · rw [sn_1 ha (by omega), sn_1 (by omega) (by omega)]; exact qsin_rise ha h h1
  · have ea : sn a = - qsin (-a) := by rw [← sn_1 (by omega) (by omega), sn_neg, Int.neg_neg]
    by_cases hb : 0 < b
    · rw [ea, sn_1 (by omega) (by omega)]
      have := qsin_rise (a := 0) (b := b) (by omega) hb h1; have := qsin_b (a := -a) (by omega) (by omega); rw [qsin_0] at *; omega
    · have eb : sn b = - qsin (-b) := by rw [← sn_1 (by omega) (by omega), sn_neg, Int.neg_neg]
      rw [ea, eb]; have := qsin_rise (a := -b) (b := -a) (by omega) (by omega) (by omega); omega
attribute [irreducible] sn qsin sine cosine rs rc
end Fdk
