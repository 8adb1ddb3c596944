/- Tables of rising places and their values between: plain. -/
import Derived.Test.YtfchbgcgdcoplaaChecked
import Derived.WalkKit
namespace Fdk
/-- the row behind a place. -/
def tix (A : Nat → Int) (n : Nat) (x : Int) : Nat → Nat → Nat
  | 0, k => k
  | f + 1, k => if k < n - 1 ∧ A k * 100 < x then tix A n x f (k + 1) else k
/-- a table's rows: places rise, from the second row on there are some. -/
structure Tab (n : Nat) (A : Nat → Int) : Prop where
  n2 : 2 ≤ n
  up : ∀ i, i + 1 < n → A i < A (i + 1)
theorem tix_ok {A : Nat → Int} {n : Nat} {x : Int} : ∀ f k, 1 ≤ k → k ≤ n - 1 → n - 1 - k ≤ f → (k = 1 ∨ A (k - 1) * 100 < x) →
    1 ≤ tix A n x f k ∧ tix A n x f k ≤ n - 1 ∧ (tix A n x f k = n - 1 ∨ x ≤ A (tix A n x f k) * 100) ∧ (tix A n x f k = 1 ∨ A (tix A n x f k - 1) * 100 < x)
  | 0, k, h1, h2, h3, h4 => ⟨h1, h2, .inl (by show k = n - 1; omega), h4⟩
  | f + 1, k, h1, h2, h3, h4 => by
    unfold tix
    split
    · next h => exact tix_ok f (k + 1) (by omega) (by omega) (by omega) (.inr (by rw [Nat.add_sub_cancel]; exact h.2))
    · next h =>
      refine ⟨h1, h2, ?_, h4⟩
      by_cases e : k < n - 1
      · exact .inr (by have : ¬ A k * 100 < x := fun g => h ⟨e, g⟩; omega)
      · exact .inl (by omega)
/-- the value in a row. -/
def seg (a b y z x : Int) : Int := y + (z - y) * (x - a * 100) / ((b - a) * 100)
def tix1 (A : Nat → Int) (n : Nat) (x : Int) : Nat := tix A n x n 1
/-- the table's value at a place. -/
def tv (A B : Nat → Int) (n : Nat) (x : Int) : Int := seg (A (tix1 A n x - 1)) (A (tix1 A n x)) (B (tix1 A n x - 1)) (B (tix1 A n x)) x
theorem tix1_ok {A : Nat → Int} {n : Nat} {x : Int} (T : Tab n A) : 1 ≤ tix1 A n x ∧ tix1 A n x ≤ n - 1 ∧ (tix1 A n x = n - 1 ∨ x ≤ A (tix1 A n x) * 100) ∧ (tix1 A n x = 1 ∨ A (tix1 A n x - 1) * 100 < x) :=
  tix_ok n 1 (Nat.le_refl _) (by have := T.n2; omega) (by omega) (.inl rfl)
theorem up_le {A : Nat → Int} {n : Nat} (T : Tab n A) : ∀ d i, i + d < n → A i ≤ A (i + d)
  | 0, i, _ => Int.le_refl _
  | d + 1, i, h => by
    have g := up_le T d i (by omega)
    have k := T.up (i + d) (by omega)
    rw [show i + (d + 1) = i + d + 1 by omega]; omega
theorem up_le' {A : Nat → Int} {n : Nat} (T : Tab n A) {i j : Nat} (h : i ≤ j) (hj : j < n) : A i ≤ A j := by
  have := up_le T (j - i) i (by omega)
  rw [show i + (j - i) = j by omega] at this; exact this
theorem tix1_mono {A : Nat → Int} {n : Nat} {x y : Int} (T : Tab n A) (h : x ≤ y) : tix1 A n x ≤ tix1 A n y := by
  obtain ⟨a1, a2, a3, a4⟩ := tix1_ok (x := x) T
  obtain ⟨b1, b2, b3, b4⟩ := tix1_ok (x := y) T
  rcases Nat.lt_or_ge (tix1 A n y) (tix1 A n x) with g | g
  · exfalso
    have h1 : A (tix1 A n x - 1) * 100 < x := by rcases a4 with h | h; omega; exact h
    have h2 : y ≤ A (tix1 A n y) * 100 := by rcases b3 with h | h; omega; exact h
    have h3 := up_le' T (show tix1 A n y ≤ tix1 A n x - 1 by omega) (by omega)
    omega
  · exact g
theorem seg_le {a b y z x u : Int} (hab : a < b) (hyz : y ≤ z) (h : x ≤ u) : seg a b y z x ≤ seg a b y z u := by
  unfold seg
  have h1 : (z - y) * (x - a * 100) ≤ (z - y) * (u - a * 100) := Int.mul_le_mul_of_nonneg_left (by omega) (by omega)
  have := Int.ediv_le_ediv (show 0 < (b - a) * 100 by omega) h1
  omega
theorem seg_ge {a b y z x u : Int} (hab : a < b) (hyz : z ≤ y) (h : x ≤ u) : seg a b y z u ≤ seg a b y z x := by
  unfold seg
  have h1 : (z - y) * (u - a * 100) ≤ (z - y) * (x - a * 100) := Int.mul_le_mul_of_nonpos_left (by omega) (by omega)
  have := Int.ediv_le_ediv (show 0 < (b - a) * 100 by omega) h1
  omega
theorem seg_at0 {a b y z : Int} : seg a b y z (a * 100) = y := by unfold seg; rw [Int.sub_self, Int.mul_zero, Int.zero_ediv, Int.add_zero]
theorem seg_at1 {a b y z : Int} (hab : a < b) : seg a b y z (b * 100) = z := by
  unfold seg
  rw [show b * 100 - a * 100 = (b - a) * 100 by omega, Int.mul_ediv_cancel _ (by omega)]; omega
/-- rising values. -/
theorem tv_up {A B : Nat → Int} {n : Nat} (T : Tab n A) (hB : ∀ i, i + 1 < n → B i ≤ B (i + 1)) {x y : Int} (h : x ≤ y) : tv A B n x ≤ tv A B n y := by
  obtain ⟨a1, a2, a3, a4⟩ := tix1_ok (x := x) T
  obtain ⟨b1, b2, b3, b4⟩ := tix1_ok (x := y) T
  have hm := tix1_mono T h
  unfold tv
  generalize tix1 A n x = i at *
  generalize tix1 A n y = j at *
  obtain ⟨i, rfl⟩ : ∃ k, i = k + 1 := ⟨i - 1, by omega⟩
  obtain ⟨j, rfl⟩ : ∃ k, j = k + 1 := ⟨j - 1, by omega⟩
  simp only [Nat.add_sub_cancel] at *
  have n2 := T.n2
  by_cases e : i = j
  · subst e
    exact seg_le (T.up i (by omega)) (hB i (by omega)) h
  · have x1 : x ≤ A (i + 1) * 100 := by rcases a3 with h | h; omega; exact h
    have y1 : A j * 100 < y := by rcases b4 with h | h; omega; exact h
    have g1 := seg_le (T.up i (by omega)) (hB i (by omega)) x1
    rw [seg_at1 (T.up i (by omega))] at g1
    have g2 := seg_le (T.up j (by omega)) (hB j (by omega)) (show A j * 100 ≤ y by omega)
    rw [seg_at0] at g2
    have g3 : ∀ d i, i + d < n → B i ≤ B (i + d) := by
      intro d
      induction d with
      | zero => intro i _; exact Int.le_refl _
      | succ d ih =>
        intro i hi
        have := ih i (by omega)
        have := hB (i + d) (by omega)
        rw [show i + (d + 1) = i + d + 1 by omega]; omega
    have g4 := g3 (j - (i + 1)) (i + 1) (by omega)
    rw [show i + 1 + (j - (i + 1)) = j by omega] at g4
    omega
/-- falling values. -/
theorem tv_down {A B : Nat → Int} {n : Nat} (T : Tab n A) (hB : ∀ i, i + 1 < n → B (i + 1) ≤ B i) {x y : Int} (h : x ≤ y) : tv A B n y ≤ tv A B n x := by
  obtain ⟨a1, a2, a3, a4⟩ := tix1_ok (x := x) T
  obtain ⟨b1, b2, b3, b4⟩ := tix1_ok (x := y) T
  have hm := tix1_mono T h
  unfold tv
  generalize tix1 A n x = i at *
  generalize tix1 A n y = j at *
  obtain ⟨i, rfl⟩ : ∃ k, i = k + 1 := ⟨i - 1, by omega⟩
  obtain ⟨j, rfl⟩ : ∃ k, j = k + 1 := ⟨j - 1, by omega⟩
  simp only [Nat.add_sub_cancel] at *
  have n2 := T.n2
  by_cases e : i = j
  · subst e
    exact seg_ge (T.up i (by omega)) (hB i (by omega)) h
  · have x1 : x ≤ A (i + 1) * 100 := by rcases a3 with h | h; omega; exact h
    have y1 : A j * 100 < y := by rcases b4 with h | h; omega; exact h
    have g1 := seg_ge (T.up i (by omega)) (hB i (by omega)) x1
    rw [seg_at1 (T.up i (by omega))] at g1
    have g2 := seg_ge (T.up j (by omega)) (hB j (by omega)) (show A j * 100 ≤ y by omega)
    rw [seg_at0] at g2
    have g3 : ∀ d i, i + d < n → B (i + d) ≤ B i := by
      intro d
      induction d with
      | zero => intro i _; exact Int.le_refl _
      | succ d ih =>
        intro i hi
        have := ih i (by omega)
        have := hB (i + d) (by omega)
        rw [show i + (d + 1) = i + d + 1 by omega]; omega
    have g4 := g3 (j - (i + 1)) (i + 1) (by omega)
    rw [show i + 1 + (j - (i + 1)) = j by omega] at g4
    omega
/-- the tables, as lists. -/
def la (l : List (Int × Int)) (i : Nat) : Int := (l.getD i (0, 0)).1
def lb (l : List (Int × Int)) (i : Nat) : Int := (l.getD i (0, 0)).2
def prs : List (Int × Int) := [(-2000, 1074400), (0, 1000000), (5000, 832000), (10000, 687700), (15000, 564300), (20000, 459500), (25000, 371100), (30000, 297000), (35000, 235300), (40000, 185100), (45000, 145500), (50000, 114500), (55000, 90000), (60000, 70800)]
def rts : List (Int × Int) := [(-2000, 971400), (0, 1000000), (5000, 1077300), (10000, 1163700), (15000, 1260600), (20000, 1370000), (25000, 1493800), (30000, 1634900), (35000, 1796400), (40000, 2015500), (45000, 2272700), (50000, 2562800), (55000, 2890100), (60000, 3259100)]
def tmps : List (Int × Int) := [(-2000, 29211), (0, 28815), (36089, 21665), (60000, 21665)]
theorem prs_tab : Tab 14 (la prs) := ⟨by decide, fun i hi => by have : ∀ i, i < 13 → la prs i < la prs (i + 1) := by decide
                                                                exact this i (by omega)⟩
theorem rts_tab : Tab 14 (la rts) := ⟨by decide, fun i hi => by have : ∀ i, i < 13 → la rts i < la rts (i + 1) := by decide
                                                                exact this i (by omega)⟩
theorem tmps_tab : Tab 4 (la tmps) := ⟨by decide, fun i hi => by have : ∀ i, i < 3 → la tmps i < la tmps (i + 1) := by decide
                                                                 exact this i (by omega)⟩
/-- pressure, ratio, temperature, sound. -/
def pre (x : Int) : Int := tv (la prs) (lb prs) 14 x
def rat (x d : Int) : Int := tv (la rts) (lb rts) 14 x * (57630 + d) / 57630
def tem (x d : Int) : Int := tv (la tmps) (lb tmps) 4 x + d
theorem prs_dn : ∀ i, i + 1 < 14 → lb prs (i + 1) ≤ lb prs i := fun i hi => (by decide : ∀ i, i < 13 → lb prs (i + 1) ≤ lb prs i) i (by omega)
theorem rts_u1 : ∀ i, i + 1 < 14 → lb rts i ≤ lb rts (i + 1) := fun i hi => (by decide : ∀ i, i < 13 → lb rts i ≤ lb rts (i + 1)) i (by omega)
theorem tmps_dn : ∀ i, i + 1 < 4 → lb tmps (i + 1) ≤ lb tmps i := fun i hi => (by decide : ∀ i, i < 3 → lb tmps (i + 1) ≤ lb tmps i) i (by omega)
theorem pre_down {x y : Int} (h : x ≤ y) : pre y ≤ pre x := tv_down prs_tab prs_dn h
theorem rts_up {x y : Int} (h : x ≤ y) : tv (la rts) (lb rts) 14 x ≤ tv (la rts) (lb rts) 14 y := tv_up rts_tab rts_u1 h
theorem tmps_down {x y : Int} (h : x ≤ y) : tv (la tmps) (lb tmps) 4 y ≤ tv (la tmps) (lb tmps) 4 x := tv_down tmps_tab tmps_dn h
theorem pre_b {x : Int} (h0 : -200000 ≤ x) (h1 : x ≤ 6000000) : 70800 ≤ pre x ∧ pre x ≤ 1074400 := by
  have a := pre_down h1
  have b := pre_down h0
  rw [show pre 6000000 = 70800 by decide +kernel] at a
  rw [show pre (-200000) = 1074400 by decide +kernel] at b
  exact ⟨a, b⟩
theorem rts_b {x : Int} (h0 : -200000 ≤ x) (h1 : x ≤ 6000000) : 971400 ≤ tv (la rts) (lb rts) 14 x ∧ tv (la rts) (lb rts) 14 x ≤ 3259100 := by
  have a := rts_up h1
  have b := rts_up h0
  rw [show tv (la rts) (lb rts) 14 6000000 = 3259100 by decide +kernel] at a
  rw [show tv (la rts) (lb rts) 14 (-200000) = 971400 by decide +kernel] at b
  exact ⟨b, a⟩
theorem tmps_b {x : Int} (h0 : -200000 ≤ x) (h1 : x ≤ 6000000) : 21665 ≤ tv (la tmps) (lb tmps) 4 x ∧ tv (la tmps) (lb tmps) 4 x ≤ 29211 := by
  have a := tmps_down h1
  have b := tmps_down h0
  rw [show tv (la tmps) (lb tmps) 4 6000000 = 21665 by decide +kernel] at a
  rw [show tv (la tmps) (lb tmps) 4 (-200000) = 29211 by decide +kernel] at b
  exact ⟨a, b⟩
end Fdk
