/- Boxes of chapter 45: within, the reach, coasted; both sides. -/
import Derived.Test.YtfeoladkpgojpaaIner
namespace Go.Proofs.Ytfeoladkpgojpaa
open Go.RowKit Go.Joins
set_option linter.unusedVariables false

def wit (x y r s l : Int) : Bool := bv x y r s && (decide (r ≤ l) && decide (s ≤ l))
theorem wit_f {x y r s l : Int} (h : bv x y r s = false) : wit x y r s l = false := by simp [wit, h]
theorem wit_n1 {x y r s l : Int} (h : ¬ r ≤ l) : wit x y r s l = false := by simp [wit, h]
theorem wit_n2 {x y r s l : Int} (h : ¬ s ≤ l) : wit x y r s l = false := by simp [wit, h]
theorem wit_t {x y r s l : Int} (h : bv x y r s = true) (h1 : r ≤ l) (h2 : s ≤ l) : wit x y r s l = true := by simp [wit, h, h1, h2]
abbrev TwoN (a : Int × Int) : Ending := .returned (.tuple #[.int .i64 a.1, .int .i64 a.2])
/-- the reach, and the error. -/
def rch (x y r s d l : Int) : Int × Int :=
  if bv x y r s then (if inb d 1 1000 && inb l 0 2000000 then (if wit x y r s l then ((l - max r s) / d, 0) else (0, 6)) else (0, 2)) else (0, 1)
abbrev Bx5 (c : Int × Int × Int × Int × Int) : Ending := .returned (.tuple #[boxV c.1 c.2.1 c.2.2.1 c.2.2.2.1, .int .i64 c.2.2.2.2])
def okv (a b d t : Int) : Bool := inb a (-2000) 2000 && (inb b (-2000) 2000 && (inb d 0 1000 && inb t 0 144000))
/-- the coasted box, and the error. -/
def coast (x y r s a b d t : Int) : Int × Int × Int × Int × Int :=
  if bv x y r s then (if okv a b d t then (if bv (x + a * t) (y + b * t) (r + d * t) (s + d * t) then (x + a * t, y + b * t, r + d * t, s + d * t, 0) else (0, 0, 0, 0, 2)) else (0, 0, 0, 0, 2)) else (0, 0, 0, 0, 1)
theorem bx5 {c d : Int × Int × Int × Int × Int} (h : c = d) : Bx5 c = Bx5 d := by rw [h]
theorem twn {c d : Int × Int} (h : c = d) : TwoN c = TwoN d := by rw [h]
theorem mulb {a t : Int} (h0 : -2000 ≤ a) (h1 : a ≤ 2000) (t0 : 0 ≤ t) (t1 : t ≤ 144000) : -288000000 ≤ a * t ∧ a * t ≤ 288000000 := by
  have k1 : a * t ≤ 2000 * t := Int.mul_le_mul_of_nonneg_right h1 t0
  have k2 : -2000 * t ≤ a * t := Int.mul_le_mul_of_nonneg_right h0 t0
  generalize a * t = P at *
  omega
theorem tdiv_b {n d : Int} (h0 : 0 ≤ n) (h1 : n ≤ 2000000) (d0 : 1 ≤ d) : n.tdiv d = n / d ∧ 0 ≤ n / d ∧ n / d ≤ 2000000 := by
  refine ⟨Int.tdiv_eq_ediv_of_nonneg h0, Int.ediv_nonneg h0 (by omega), ?_⟩
  exact Int.le_trans (Int.ediv_le_self _ h0) h1

theorem iwithin_any (x y r s l : Int) (w : World) :
    Calls Try.prog 22 #[boxV x y r s, .int .i64 l] w fun e w' => e = .returned (.bool (wit x y r s l)) ∧ Below w.heap.size w w' := by
  have hc : (bv x y r s = false ∧ Hid (wit x y r s l = false)) ∨ (bv x y r s = true ∧ (¬ r ≤ l) ∧ Hid (wit x y r s l = false)) ∨ (bv x y r s = true ∧ r ≤ l ∧ (¬ s ≤ l) ∧ Hid (wit x y r s l = false)) ∨ (bv x y r s = true ∧ r ≤ l ∧ s ≤ l ∧ Hid (wit x y r s l = true)) := by
    by_cases h2 : r ≤ l
    · by_cases h3 : s ≤ l
      · cases h : bv x y r s
        · exact .inl ⟨rfl, Lib.hid (wit_f h)⟩
        · exact .inr (.inr (.inr ⟨rfl, h2, h3, Lib.hid (wit_t h h2 h3)⟩))
      · cases h : bv x y r s
        · exact .inl ⟨rfl, Lib.hid (wit_f h)⟩
        · exact .inr (.inr (.inl ⟨rfl, h2, h3, Lib.hid (wit_n2 h3)⟩))
    · cases h : bv x y r s
      · exact .inl ⟨rfl, Lib.hid (wit_f h)⟩
      · exact .inr (.inl ⟨rfl, h2, Lib.hid (wit_n1 h2)⟩)
  rcases hc with ⟨h1, b⟩ | ⟨h1, h2, b⟩ | ⟨h1, h2, h3, b⟩ | ⟨h1, h2, h3, b⟩
  all_goals
    go_enter Try.func22, Try.ntmps22
    go_wp2_with fail
    refine (ivalid_any _ _ _ _ _).mono ?_
    rintro e w1 ⟨rfl, hb⟩
    have B := thn (below_alloc1 w _) hb
    obtain ⟨c0, c1, c2, c3, f0, f1, f2, f3, l0⟩ := (cell4_new w _ _ _ _ _).next hb
    rw [h1]
    go_wp2
    go_ret
    exact ⟨ret_b (by first | exact b.out.symm | (rw [b.out]; simp [*])), B⟩
theorem rwith_any (x y r s l : Int) (w : World) :
    Calls Try.prog 23 #[boxV x y r s, .int .i64 l] w fun e w' => e = .returned (.bool (wit x y r s l)) ∧ Below w.heap.size w w' := by
  have hc : (bv x y r s = false ∧ Hid (wit x y r s l = false)) ∨ (bv x y r s = true ∧ (¬ r ≤ l) ∧ Hid (wit x y r s l = false)) ∨ (bv x y r s = true ∧ r ≤ l ∧ (¬ s ≤ l) ∧ Hid (wit x y r s l = false)) ∨ (bv x y r s = true ∧ r ≤ l ∧ s ≤ l ∧ Hid (wit x y r s l = true)) := by
    by_cases h2 : r ≤ l
    · by_cases h3 : s ≤ l
      · cases h : bv x y r s
        · exact .inl ⟨rfl, Lib.hid (wit_f h)⟩
        · exact .inr (.inr (.inr ⟨rfl, h2, h3, Lib.hid (wit_t h h2 h3)⟩))
      · cases h : bv x y r s
        · exact .inl ⟨rfl, Lib.hid (wit_f h)⟩
        · exact .inr (.inr (.inl ⟨rfl, h2, h3, Lib.hid (wit_n2 h3)⟩))
    · cases h : bv x y r s
      · exact .inl ⟨rfl, Lib.hid (wit_f h)⟩
      · exact .inr (.inl ⟨rfl, h2, Lib.hid (wit_n1 h2)⟩)
  rcases hc with ⟨h1, b⟩ | ⟨h1, h2, b⟩ | ⟨h1, h2, h3, b⟩ | ⟨h1, h2, h3, b⟩
  all_goals
    go_enter Try.func23, Try.ntmps23
    go_wp2_with fail
    refine (rvalid_any _ _ _ _ _).mono ?_
    rintro e w1 ⟨rfl, hb⟩
    have B := thn (below_alloc1 w _) hb
    obtain ⟨c0, c1, c2, c3, f0, f1, f2, f3, l0⟩ := (cell4_new w _ _ _ _ _).next hb
    rw [h1]
    go_wp2
    go_ret
    exact ⟨ret_b (by first | exact b.out.symm | (rw [b.out]; simp [*])), B⟩
set_option maxHeartbeats 800000 in
theorem ireach_any (x y r s d l : Int) (w : World) :
    Calls Try.prog 20 #[boxV x y r s, .int .i64 d, .int .i64 l] w fun e w' => e = TwoN (rch x y r s d l) ∧ Below w.heap.size w w' := by
  have hc : (bv x y r s = false) ∨ (bv x y r s = true ∧ inb d 1 1000 = false) ∨ (bv x y r s = true ∧ inb d 1 1000 = true ∧ inb l 0 2000000 = false) ∨ (bv x y r s = true ∧ inb d 1 1000 = true ∧ inb l 0 2000000 = true ∧ wit x y r s l = false) ∨ (bv x y r s = true ∧ inb d 1 1000 = true ∧ inb l 0 2000000 = true ∧ wit x y r s l = true) := by
    cases bv x y r s <;> cases inb d 1 1000 <;> cases inb l 0 2000000 <;> cases wit x y r s l <;> simp
  rcases hc with h1 | ⟨h1, h2⟩ | ⟨h1, h2, h3⟩ | ⟨h1, h2, h3, h4⟩ | ⟨h1, h2, h3, h4⟩
  · have b := Lib.hid (show rch x y r s d l = (0, 1) by simp [rch, h1])
    go_enter Try.func20, Try.ntmps20
    go_wp2_with fail
    refine (ivalid_any _ _ _ _ _).mono ?_
    rintro e w1 ⟨rfl, hb⟩
    have B := thn (below_alloc1 w _) hb
    have T := (cell4_new w _ _ _ _ _).next hb
    obtain ⟨c0, c1, c2, c3, f0, f1, f2, f3, l0⟩ := id T
    rw [h1]
    go_wp2_with (first | (go_at_call 29; refine (ifrom_any _ _ _ _).mono ?_; rintro e w' ⟨rfl, rfl⟩))
    go_ret2
    exact ⟨twn b.out.symm, B⟩
  · have b := Lib.hid (show rch x y r s d l = (0, 2) by simp [rch, h1, h2])
    go_enter Try.func20, Try.ntmps20
    go_wp2_with fail
    refine (ivalid_any _ _ _ _ _).mono ?_
    rintro e w1 ⟨rfl, hb⟩
    have B := thn (below_alloc1 w _) hb
    have T := (cell4_new w _ _ _ _ _).next hb
    obtain ⟨c0, c1, c2, c3, f0, f1, f2, f3, l0⟩ := id T
    rw [h1]
    go_wp2_with (first | (go_at_call 29; refine (ifrom_any _ _ _ _).mono ?_; rintro e w' ⟨rfl, rfl⟩))
    go_ret2
    exact ⟨twn b.out.symm, B⟩
  · have b := Lib.hid (show rch x y r s d l = (0, 2) by simp [rch, h1, h2, h3])
    go_enter Try.func20, Try.ntmps20
    go_wp2_with fail
    refine (ivalid_any _ _ _ _ _).mono ?_
    rintro e w1 ⟨rfl, hb⟩
    have B := thn (below_alloc1 w _) hb
    have T := (cell4_new w _ _ _ _ _).next hb
    obtain ⟨c0, c1, c2, c3, f0, f1, f2, f3, l0⟩ := id T
    rw [h1]
    go_wp2_with (first | (go_at_call 29; refine (ifrom_any _ _ _ _).mono ?_; rintro e w' ⟨rfl, rfl⟩))
    go_ret2
    exact ⟨twn b.out.symm, B⟩
  · have b := Lib.hid (show rch x y r s d l = (0, 6) by simp [rch, h1, h2, h3, h4])
    go_enter Try.func20, Try.ntmps20
    go_wp2_with fail
    refine (ivalid_any _ _ _ _ _).mono ?_
    rintro e w1 ⟨rfl, hb⟩
    have B := thn (below_alloc1 w _) hb
    have T := (cell4_new w _ _ _ _ _).next hb
    obtain ⟨c0, c1, c2, c3, f0, f1, f2, f3, l0⟩ := id T
    rw [h1]
    go_wp2_with (first | (go_at_call 29; refine (ifrom_any _ _ _ _).mono ?_; rintro e w' ⟨rfl, rfl⟩))
    refine (iwithin_any _ _ _ _ _ _).mono ?_
    rintro e w2 ⟨rfl, hb2⟩
    replace B := thn B hb2
    obtain ⟨c0, c1, c2, c3, f0, f1, f2, f3, l0⟩ := T.next hb2
    rw [h4]
    go_wp2
    go_ret2
    exact ⟨twn b.out.symm, B⟩
  · have b := Lib.hid (show rch x y r s d l = ((l - max r s) / d, 0) by simp [rch, h1, h2, h3, h4])
    obtain ⟨⟨m0, m1⟩, ⟨m2, m3⟩, ⟨m4, m5⟩, m6, m7⟩ := bv_of h1
    have ⟨d0, d1⟩ := inb_of h2
    have ⟨l0, l1⟩ := inb_of h3
    have hw := h4
    simp only [wit, h1, Bool.true_and, Bool.and_eq_true, decide_eq_true_eq] at hw
    have ⟨z0, z1⟩ := hw
    clear hw
    have HD := tdiv_b (n := l - max r s) (d := d) (by omega) (by omega) d0
    have q0 := HD.2.1
    have q1 := HD.2.2
    have Q := Lib.hid HD.1
    clear HD
    go_enter Try.func20, Try.ntmps20
    go_wp2_with fail
    refine (ivalid_any _ _ _ _ _).mono ?_
    rintro e w1 ⟨rfl, hb⟩
    have B := thn (below_alloc1 w _) hb
    have T := (cell4_new w _ _ _ _ _).next hb
    obtain ⟨c0, c1, c2, c3, f0, f1, f2, f3, l0⟩ := id T
    rw [h1]
    go_wp2_with (first | (go_at_call 29; refine (ifrom_any _ _ _ _).mono ?_; rintro e w' ⟨rfl, rfl⟩))
    refine (iwithin_any _ _ _ _ _ _).mono ?_
    rintro e w2 ⟨rfl, hb2⟩
    replace B := thn B hb2
    obtain ⟨c0, c1, c2, c3, f0, f1, f2, f3, l0⟩ := T.next hb2
    rw [h4]
    go_wp2
    all_goals go_ret2
    all_goals first | exact ⟨twn (c := ((l - s) / d, 0)) (by rw [b.out, show max r s = s by omega]), B⟩ | exact ⟨twn (c := ((l - r) / d, 0)) (by rw [b.out, show max r s = r by omega]), B⟩
set_option maxHeartbeats 800000 in
theorem rreach_any (x y r s d l : Int) (w : World) :
    Calls Try.prog 21 #[boxV x y r s, .int .i64 d, .int .i64 l] w fun e w' => e = TwoN (rch x y r s d l) ∧ Below w.heap.size w w' := by
  have hc : (bv x y r s = false) ∨ (bv x y r s = true ∧ inb d 1 1000 = false) ∨ (bv x y r s = true ∧ inb d 1 1000 = true ∧ inb l 0 2000000 = false) ∨ (bv x y r s = true ∧ inb d 1 1000 = true ∧ inb l 0 2000000 = true ∧ wit x y r s l = false) ∨ (bv x y r s = true ∧ inb d 1 1000 = true ∧ inb l 0 2000000 = true ∧ wit x y r s l = true) := by
    cases bv x y r s <;> cases inb d 1 1000 <;> cases inb l 0 2000000 <;> cases wit x y r s l <;> simp
  rcases hc with h1 | ⟨h1, h2⟩ | ⟨h1, h2, h3⟩ | ⟨h1, h2, h3, h4⟩ | ⟨h1, h2, h3, h4⟩
  · have b := Lib.hid (show rch x y r s d l = (0, 1) by simp [rch, h1])
    go_enter Try.func21, Try.ntmps21
    go_wp2_with fail
    refine (rvalid_any _ _ _ _ _).mono ?_
    rintro e w1 ⟨rfl, hb⟩
    have B := thn (below_alloc1 w _) hb
    have T := (cell4_new w _ _ _ _ _).next hb
    obtain ⟨c0, c1, c2, c3, f0, f1, f2, f3, l0⟩ := id T
    rw [h1]
    go_wp2_with (first | (go_at_call 30; refine (rwithin_any _ _ _ _).mono ?_; rintro e w' ⟨rfl, rfl⟩))
    go_ret2
    exact ⟨twn b.out.symm, B⟩
  · have b := Lib.hid (show rch x y r s d l = (0, 2) by simp [rch, h1, h2])
    go_enter Try.func21, Try.ntmps21
    go_wp2_with fail
    refine (rvalid_any _ _ _ _ _).mono ?_
    rintro e w1 ⟨rfl, hb⟩
    have B := thn (below_alloc1 w _) hb
    have T := (cell4_new w _ _ _ _ _).next hb
    obtain ⟨c0, c1, c2, c3, f0, f1, f2, f3, l0⟩ := id T
    rw [h1]
    go_wp2_with (first | (go_at_call 30; refine (rwithin_any _ _ _ _).mono ?_; rintro e w' ⟨rfl, rfl⟩))
    go_ret2
    exact ⟨twn b.out.symm, B⟩
  · have b := Lib.hid (show rch x y r s d l = (0, 2) by simp [rch, h1, h2, h3])
    go_enter Try.func21, Try.ntmps21
    go_wp2_with fail
    refine (rvalid_any _ _ _ _ _).mono ?_
    rintro e w1 ⟨rfl, hb⟩
    have B := thn (below_alloc1 w _) hb
    have T := (cell4_new w _ _ _ _ _).next hb
    obtain ⟨c0, c1, c2, c3, f0, f1, f2, f3, l0⟩ := id T
    rw [h1]
    go_wp2_with (first | (go_at_call 30; refine (rwithin_any _ _ _ _).mono ?_; rintro e w' ⟨rfl, rfl⟩))
    go_ret2
    exact ⟨twn b.out.symm, B⟩
  · have b := Lib.hid (show rch x y r s d l = (0, 6) by simp [rch, h1, h2, h3, h4])
    go_enter Try.func21, Try.ntmps21
    go_wp2_with fail
    refine (rvalid_any _ _ _ _ _).mono ?_
    rintro e w1 ⟨rfl, hb⟩
    have B := thn (below_alloc1 w _) hb
    have T := (cell4_new w _ _ _ _ _).next hb
    obtain ⟨c0, c1, c2, c3, f0, f1, f2, f3, l0⟩ := id T
    rw [h1]
    go_wp2_with (first | (go_at_call 30; refine (rwithin_any _ _ _ _).mono ?_; rintro e w' ⟨rfl, rfl⟩))
    refine (rwith_any _ _ _ _ _ _).mono ?_
    rintro e w2 ⟨rfl, hb2⟩
    replace B := thn B hb2
    obtain ⟨c0, c1, c2, c3, f0, f1, f2, f3, l0⟩ := T.next hb2
    rw [h4]
    go_wp2
    go_ret2
    exact ⟨twn b.out.symm, B⟩
  · have b := Lib.hid (show rch x y r s d l = ((l - max r s) / d, 0) by simp [rch, h1, h2, h3, h4])
    obtain ⟨⟨m0, m1⟩, ⟨m2, m3⟩, ⟨m4, m5⟩, m6, m7⟩ := bv_of h1
    have ⟨d0, d1⟩ := inb_of h2
    have ⟨l0, l1⟩ := inb_of h3
    have hw := h4
    simp only [wit, h1, Bool.true_and, Bool.and_eq_true, decide_eq_true_eq] at hw
    have ⟨z0, z1⟩ := hw
    clear hw
    have HD := tdiv_b (n := l - max r s) (d := d) (by omega) (by omega) d0
    have q0 := HD.2.1
    have q1 := HD.2.2
    have Q := Lib.hid HD.1
    clear HD
    go_enter Try.func21, Try.ntmps21
    go_wp2_with fail
    refine (rvalid_any _ _ _ _ _).mono ?_
    rintro e w1 ⟨rfl, hb⟩
    have B := thn (below_alloc1 w _) hb
    have T := (cell4_new w _ _ _ _ _).next hb
    obtain ⟨c0, c1, c2, c3, f0, f1, f2, f3, l0⟩ := id T
    rw [h1]
    go_wp2_with (first | (go_at_call 30; refine (rwithin_any _ _ _ _).mono ?_; rintro e w' ⟨rfl, rfl⟩))
    refine (rwith_any _ _ _ _ _ _).mono ?_
    rintro e w2 ⟨rfl, hb2⟩
    replace B := thn B hb2
    obtain ⟨c0, c1, c2, c3, f0, f1, f2, f3, l0⟩ := T.next hb2
    rw [h4]
    go_wp2
    all_goals go_ret2
    all_goals first | exact ⟨twn (c := ((l - s) / d, 0)) (by rw [b.out, show max r s = s by omega]), B⟩ | exact ⟨twn (c := ((l - r) / d, 0)) (by rw [b.out, show max r s = r by omega]), B⟩
set_option maxHeartbeats 1600000 in
theorem icoast_any (x y r s a b d t : Int) (w : World) :
    Calls Try.prog 12 #[boxV x y r s, ptV a b, .int .i64 d, .int .i64 t] w fun e w' => e = Bx5 (coast x y r s a b d t) ∧ Below w.heap.size w w' := by
  have hc : (bv x y r s = false) ∨ (bv x y r s = true ∧ inb a (-2000) 2000 = false) ∨ (bv x y r s = true ∧ inb a (-2000) 2000 = true ∧ inb b (-2000) 2000 = false) ∨ (bv x y r s = true ∧ inb a (-2000) 2000 = true ∧ inb b (-2000) 2000 = true ∧ inb d 0 1000 = false) ∨ (bv x y r s = true ∧ inb a (-2000) 2000 = true ∧ inb b (-2000) 2000 = true ∧ inb d 0 1000 = true ∧ inb t 0 144000 = false) ∨ (bv x y r s = true ∧ inb a (-2000) 2000 = true ∧ inb b (-2000) 2000 = true ∧ inb d 0 1000 = true ∧ inb t 0 144000 = true) := by
    cases bv x y r s <;> cases inb a (-2000) 2000 <;> cases inb b (-2000) 2000 <;> cases inb d 0 1000 <;> cases inb t 0 144000 <;> simp
  rcases hc with h1 | ⟨h1, h2⟩ | ⟨h1, h2, h3⟩ | ⟨h1, h2, h3, h4⟩ | ⟨h1, h2, h3, h4, h5⟩ | ⟨h1, h2, h3, h4, h5⟩
  · have hh := Lib.hid (show coast x y r s a b d t = (0, 0, 0, 0, 1) by simp [coast, h1])
    go_enter Try.func12, Try.ntmps12
    go_wp2_with fail
    refine (ivalid_any _ _ _ _ _).mono ?_
    rintro e w1 ⟨rfl, hb⟩
    have B := thn (below_alloc3 w _ _ _) hb
    obtain ⟨c0, c1, c2, c3, f0, f1, f2, f3, l0⟩ := (((cell4_new w _ _ _ _ _).alc _).alc _).next hb
    obtain ⟨k0, k1, g0, g1, l1⟩ := ((cellp_new _ _ _ _).alc _).next hb
    obtain ⟨z0, z1, z2, z3, y0, y1, y2, y3, l2⟩ := (cell4_new _ _ _ _ _ _).next hb
    simp only [World.alloc, Array.size_push] at k0 k1 g0 g1 l1 z0 z1 z2 z3 y0 y1 y2 y3 l2
    rw [h1]
    go_wp2_with (first | (go_at_call 29; refine (ifrom_any _ _ _ _).mono ?_; rintro e w' ⟨rfl, rfl⟩))
    exact bodyPost_ret (v := .tuple #[boxV 0 0 0 0, .int .i64 1]) (by simp [results, Try.results12, go_sem, *]) rfl ⟨bx5 hh.out.symm, by repeat (first | exact B | refine Below.setCell ?_ (by simp; omega) _)⟩
  · have hh := Lib.hid (show coast x y r s a b d t = (0, 0, 0, 0, 2) by simp [coast, okv, h1, h2])
    go_enter Try.func12, Try.ntmps12
    go_wp2_with fail
    refine (ivalid_any _ _ _ _ _).mono ?_
    rintro e w1 ⟨rfl, hb⟩
    have B := thn (below_alloc3 w _ _ _) hb
    obtain ⟨c0, c1, c2, c3, f0, f1, f2, f3, l0⟩ := (((cell4_new w _ _ _ _ _).alc _).alc _).next hb
    obtain ⟨k0, k1, g0, g1, l1⟩ := ((cellp_new _ _ _ _).alc _).next hb
    obtain ⟨z0, z1, z2, z3, y0, y1, y2, y3, l2⟩ := (cell4_new _ _ _ _ _ _).next hb
    simp only [World.alloc, Array.size_push] at k0 k1 g0 g1 l1 z0 z1 z2 z3 y0 y1 y2 y3 l2
    rw [h1]
    go_wp2_with (first | (go_at_call 29; refine (ifrom_any _ _ _ _).mono ?_; rintro e w' ⟨rfl, rfl⟩))
    exact bodyPost_ret (v := .tuple #[boxV 0 0 0 0, .int .i64 2]) (by simp [results, Try.results12, go_sem, *]) rfl ⟨bx5 hh.out.symm, by repeat (first | exact B | refine Below.setCell ?_ (by simp; omega) _)⟩
  · have hh := Lib.hid (show coast x y r s a b d t = (0, 0, 0, 0, 2) by simp [coast, okv, h1, h2, h3])
    go_enter Try.func12, Try.ntmps12
    go_wp2_with fail
    refine (ivalid_any _ _ _ _ _).mono ?_
    rintro e w1 ⟨rfl, hb⟩
    have B := thn (below_alloc3 w _ _ _) hb
    obtain ⟨c0, c1, c2, c3, f0, f1, f2, f3, l0⟩ := (((cell4_new w _ _ _ _ _).alc _).alc _).next hb
    obtain ⟨k0, k1, g0, g1, l1⟩ := ((cellp_new _ _ _ _).alc _).next hb
    obtain ⟨z0, z1, z2, z3, y0, y1, y2, y3, l2⟩ := (cell4_new _ _ _ _ _ _).next hb
    simp only [World.alloc, Array.size_push] at k0 k1 g0 g1 l1 z0 z1 z2 z3 y0 y1 y2 y3 l2
    rw [h1]
    go_wp2_with (first | (go_at_call 29; refine (ifrom_any _ _ _ _).mono ?_; rintro e w' ⟨rfl, rfl⟩))
    exact bodyPost_ret (v := .tuple #[boxV 0 0 0 0, .int .i64 2]) (by simp [results, Try.results12, go_sem, *]) rfl ⟨bx5 hh.out.symm, by repeat (first | exact B | refine Below.setCell ?_ (by simp; omega) _)⟩
  · have hh := Lib.hid (show coast x y r s a b d t = (0, 0, 0, 0, 2) by simp [coast, okv, h1, h2, h3, h4])
    go_enter Try.func12, Try.ntmps12
    go_wp2_with fail
    refine (ivalid_any _ _ _ _ _).mono ?_
    rintro e w1 ⟨rfl, hb⟩
    have B := thn (below_alloc3 w _ _ _) hb
    obtain ⟨c0, c1, c2, c3, f0, f1, f2, f3, l0⟩ := (((cell4_new w _ _ _ _ _).alc _).alc _).next hb
    obtain ⟨k0, k1, g0, g1, l1⟩ := ((cellp_new _ _ _ _).alc _).next hb
    obtain ⟨z0, z1, z2, z3, y0, y1, y2, y3, l2⟩ := (cell4_new _ _ _ _ _ _).next hb
    simp only [World.alloc, Array.size_push] at k0 k1 g0 g1 l1 z0 z1 z2 z3 y0 y1 y2 y3 l2
    rw [h1]
    go_wp2_with (first | (go_at_call 29; refine (ifrom_any _ _ _ _).mono ?_; rintro e w' ⟨rfl, rfl⟩))
    exact bodyPost_ret (v := .tuple #[boxV 0 0 0 0, .int .i64 2]) (by simp [results, Try.results12, go_sem, *]) rfl ⟨bx5 hh.out.symm, by repeat (first | exact B | refine Below.setCell ?_ (by simp; omega) _)⟩
  · have hh := Lib.hid (show coast x y r s a b d t = (0, 0, 0, 0, 2) by simp [coast, okv, h1, h2, h3, h4, h5])
    go_enter Try.func12, Try.ntmps12
    go_wp2_with fail
    refine (ivalid_any _ _ _ _ _).mono ?_
    rintro e w1 ⟨rfl, hb⟩
    have B := thn (below_alloc3 w _ _ _) hb
    obtain ⟨c0, c1, c2, c3, f0, f1, f2, f3, l0⟩ := (((cell4_new w _ _ _ _ _).alc _).alc _).next hb
    obtain ⟨k0, k1, g0, g1, l1⟩ := ((cellp_new _ _ _ _).alc _).next hb
    obtain ⟨z0, z1, z2, z3, y0, y1, y2, y3, l2⟩ := (cell4_new _ _ _ _ _ _).next hb
    simp only [World.alloc, Array.size_push] at k0 k1 g0 g1 l1 z0 z1 z2 z3 y0 y1 y2 y3 l2
    rw [h1]
    go_wp2_with (first | (go_at_call 29; refine (ifrom_any _ _ _ _).mono ?_; rintro e w' ⟨rfl, rfl⟩))
    exact bodyPost_ret (v := .tuple #[boxV 0 0 0 0, .int .i64 2]) (by simp [results, Try.results12, go_sem, *]) rfl ⟨bx5 hh.out.symm, by repeat (first | exact B | refine Below.setCell ?_ (by simp; omega) _)⟩
  · obtain ⟨⟨m0, m1⟩, ⟨m2, m3⟩, ⟨m4, m5⟩, m6, m7⟩ := bv_of h1
    have ⟨a0, a1⟩ := inb_of h2
    have ⟨b0, b1⟩ := inb_of h3
    have ⟨d0, d1⟩ := inb_of h4
    have ⟨t0, t1⟩ := inb_of h5
    have ⟨p0, p1⟩ := mulb a0 a1 t0 t1
    have ⟨p2, p3⟩ := mulb b0 b1 t0 t1
    have ⟨p4, p5⟩ := mulb (show -2000 ≤ d by omega) (show d ≤ 2000 by omega) t0 t1
    cases h6 : bv (x + a * t) (y + b * t) (r + d * t) (s + d * t)
    · have hh := Lib.hid (show coast x y r s a b d t = (0, 0, 0, 0, 2) by simp [coast, okv, h1, h2, h3, h4, h5, h6])
      have H6 := Lib.hid h6
      clear h6
      go_enter Try.func12, Try.ntmps12
      go_wp2_with fail
      refine (ivalid_any _ _ _ _ _).mono ?_
      rintro e w1 ⟨rfl, hb⟩
      have B := thn (below_alloc3 w _ _ _) hb
      have T := (((cell4_new w _ _ _ _ _).alc _).alc _).next hb
      have Z := (cell4_new _ _ _ _ _ _).next hb
      obtain ⟨k0, k1, g0, g1, l1⟩ := ((cellp_new _ _ _ _).alc _).next hb
      simp only [World.alloc, Array.size_push] at k0 k1 g0 g1 l1 Z
      obtain ⟨c0, c1, c2, c3, f0, f1, f2, f3, l0⟩ := id T
      obtain ⟨z0, z1, z2, z3, y0, y1, y2, y3, l2⟩ := id Z
      rw [h1]
      go_wp2_with (first | (go_at_call 29; refine (ifrom_any _ _ _ _).mono ?_; rintro e w' ⟨rfl, rfl⟩))
      refine (ivalid_any _ _ _ _ _).mono ?_
      rintro e w2 ⟨rfl, hb2⟩
      rw [H6.out]
      have TB := ((T.put (.int .i64 (x + a * t)) (.int .i64 (y + b * t)) (.int .i64 (r + d * t)) (.int .i64 (s + d * t)))).next hb2
      have TZ := (Z.else4 (p0 := ⟨w.heap.size, 0, none⟩) (p1 := ⟨w.heap.size, 1, none⟩) (p2 := ⟨w.heap.size, 2, none⟩) (p3 := ⟨w.heap.size, 3, none⟩) (by simp; omega) (by simp; omega) (by simp; omega) (by simp; omega) _ _ _ _).next hb2
      replace B := thn (put4b B (p0 := ⟨w.heap.size, 0, none⟩) (p1 := ⟨w.heap.size, 1, none⟩) (p2 := ⟨w.heap.size, 2, none⟩) (p3 := ⟨w.heap.size, 3, none⟩) (Nat.le_refl _) (Nat.le_refl _) (Nat.le_refl _) (Nat.le_refl _) _ _ _ _) hb2
      clear c0 c1 c2 c3 f0 f1 f2 f3 l0 k0 k1 g0 g1 l1 z0 z1 z2 z3 y0 y1 y2 y3 l2
      obtain ⟨c0, c1, c2, c3, f0, f1, f2, f3, l0⟩ := TB
      obtain ⟨z0, z1, z2, z3, y0, y1, y2, y3, l2⟩ := TZ
      go_wp2
      exact bodyPost_ret (v := .tuple #[boxV 0 0 0 0, .int .i64 2]) (by simp [results, Try.results12, go_sem, *]) rfl ⟨bx5 hh.out.symm, by repeat (first | exact B | refine Below.setCell ?_ (by simp; omega) _)⟩
    · have hh := Lib.hid (show coast x y r s a b d t = (x + a * t, y + b * t, r + d * t, s + d * t, 0) by simp [coast, okv, h1, h2, h3, h4, h5, h6])
      have H6 := Lib.hid h6
      clear h6
      go_enter Try.func12, Try.ntmps12
      go_wp2_with fail
      refine (ivalid_any _ _ _ _ _).mono ?_
      rintro e w1 ⟨rfl, hb⟩
      have B := thn (below_alloc3 w _ _ _) hb
      have T := (((cell4_new w _ _ _ _ _).alc _).alc _).next hb
      have Z := (cell4_new _ _ _ _ _ _).next hb
      obtain ⟨k0, k1, g0, g1, l1⟩ := ((cellp_new _ _ _ _).alc _).next hb
      simp only [World.alloc, Array.size_push] at k0 k1 g0 g1 l1 Z
      obtain ⟨c0, c1, c2, c3, f0, f1, f2, f3, l0⟩ := id T
      obtain ⟨z0, z1, z2, z3, y0, y1, y2, y3, l2⟩ := id Z
      rw [h1]
      go_wp2_with (first | (go_at_call 29; refine (ifrom_any _ _ _ _).mono ?_; rintro e w' ⟨rfl, rfl⟩))
      refine (ivalid_any _ _ _ _ _).mono ?_
      rintro e w2 ⟨rfl, hb2⟩
      rw [H6.out]
      have TB := ((T.put (.int .i64 (x + a * t)) (.int .i64 (y + b * t)) (.int .i64 (r + d * t)) (.int .i64 (s + d * t)))).next hb2
      have TZ := (Z.else4 (p0 := ⟨w.heap.size, 0, none⟩) (p1 := ⟨w.heap.size, 1, none⟩) (p2 := ⟨w.heap.size, 2, none⟩) (p3 := ⟨w.heap.size, 3, none⟩) (by simp; omega) (by simp; omega) (by simp; omega) (by simp; omega) _ _ _ _).next hb2
      replace B := thn (put4b B (p0 := ⟨w.heap.size, 0, none⟩) (p1 := ⟨w.heap.size, 1, none⟩) (p2 := ⟨w.heap.size, 2, none⟩) (p3 := ⟨w.heap.size, 3, none⟩) (Nat.le_refl _) (Nat.le_refl _) (Nat.le_refl _) (Nat.le_refl _) _ _ _ _) hb2
      clear c0 c1 c2 c3 f0 f1 f2 f3 l0 k0 k1 g0 g1 l1 z0 z1 z2 z3 y0 y1 y2 y3 l2
      obtain ⟨c0, c1, c2, c3, f0, f1, f2, f3, l0⟩ := TB
      obtain ⟨z0, z1, z2, z3, y0, y1, y2, y3, l2⟩ := TZ
      go_wp2
      exact bodyPost_ret (v := .tuple #[boxV (x + a * t) (y + b * t) (r + d * t) (s + d * t), .int .i64 0]) (by simp [results, Try.results12, go_sem, *]) rfl ⟨bx5 hh.out.symm, by repeat (first | exact B | refine Below.setCell ?_ (by simp; omega) _)⟩
set_option maxHeartbeats 1600000 in
theorem rcoast_any (x y r s a b d t : Int) (w : World) :
    Calls Try.prog 13 #[boxV x y r s, ptV a b, .int .i64 d, .int .i64 t] w fun e w' => e = Bx5 (coast x y r s a b d t) ∧ Below w.heap.size w w' := by
  have hc : (bv x y r s = false) ∨ (bv x y r s = true ∧ inb a (-2000) 2000 = false) ∨ (bv x y r s = true ∧ inb a (-2000) 2000 = true ∧ inb b (-2000) 2000 = false) ∨ (bv x y r s = true ∧ inb a (-2000) 2000 = true ∧ inb b (-2000) 2000 = true ∧ inb d 0 1000 = false) ∨ (bv x y r s = true ∧ inb a (-2000) 2000 = true ∧ inb b (-2000) 2000 = true ∧ inb d 0 1000 = true ∧ inb t 0 144000 = false) ∨ (bv x y r s = true ∧ inb a (-2000) 2000 = true ∧ inb b (-2000) 2000 = true ∧ inb d 0 1000 = true ∧ inb t 0 144000 = true) := by
    cases bv x y r s <;> cases inb a (-2000) 2000 <;> cases inb b (-2000) 2000 <;> cases inb d 0 1000 <;> cases inb t 0 144000 <;> simp
  rcases hc with h1 | ⟨h1, h2⟩ | ⟨h1, h2, h3⟩ | ⟨h1, h2, h3, h4⟩ | ⟨h1, h2, h3, h4, h5⟩ | ⟨h1, h2, h3, h4, h5⟩
  · have hh := Lib.hid (show coast x y r s a b d t = (0, 0, 0, 0, 1) by simp [coast, h1])
    go_enter Try.func13, Try.ntmps13
    go_wp2_with fail
    refine (rvalid_any _ _ _ _ _).mono ?_
    rintro e w1 ⟨rfl, hb⟩
    have B := thn (below_alloc3 w _ _ _) hb
    obtain ⟨c0, c1, c2, c3, f0, f1, f2, f3, l0⟩ := (((cell4_new w _ _ _ _ _).alc _).alc _).next hb
    obtain ⟨k0, k1, g0, g1, l1⟩ := ((cellp_new _ _ _ _).alc _).next hb
    obtain ⟨z0, z1, z2, z3, y0, y1, y2, y3, l2⟩ := (cell4_new _ _ _ _ _ _).next hb
    simp only [World.alloc, Array.size_push] at k0 k1 g0 g1 l1 z0 z1 z2 z3 y0 y1 y2 y3 l2
    rw [h1]
    go_wp2_with (first | (go_at_call 30; refine (rwithin_any _ _ _ _).mono ?_; rintro e w' ⟨rfl, rfl⟩))
    exact bodyPost_ret (v := .tuple #[boxV 0 0 0 0, .int .i64 1]) (by simp [results, Try.results13, go_sem, *]) rfl ⟨bx5 hh.out.symm, by repeat (first | exact B | refine Below.setCell ?_ (by simp; omega) _)⟩
  · have hh := Lib.hid (show coast x y r s a b d t = (0, 0, 0, 0, 2) by simp [coast, okv, h1, h2])
    go_enter Try.func13, Try.ntmps13
    go_wp2_with fail
    refine (rvalid_any _ _ _ _ _).mono ?_
    rintro e w1 ⟨rfl, hb⟩
    have B := thn (below_alloc3 w _ _ _) hb
    obtain ⟨c0, c1, c2, c3, f0, f1, f2, f3, l0⟩ := (((cell4_new w _ _ _ _ _).alc _).alc _).next hb
    obtain ⟨k0, k1, g0, g1, l1⟩ := ((cellp_new _ _ _ _).alc _).next hb
    obtain ⟨z0, z1, z2, z3, y0, y1, y2, y3, l2⟩ := (cell4_new _ _ _ _ _ _).next hb
    simp only [World.alloc, Array.size_push] at k0 k1 g0 g1 l1 z0 z1 z2 z3 y0 y1 y2 y3 l2
    rw [h1]
    go_wp2_with (first | (go_at_call 30; refine (rwithin_any _ _ _ _).mono ?_; rintro e w' ⟨rfl, rfl⟩))
    exact bodyPost_ret (v := .tuple #[boxV 0 0 0 0, .int .i64 2]) (by simp [results, Try.results13, go_sem, *]) rfl ⟨bx5 hh.out.symm, by repeat (first | exact B | refine Below.setCell ?_ (by simp; omega) _)⟩
  · have hh := Lib.hid (show coast x y r s a b d t = (0, 0, 0, 0, 2) by simp [coast, okv, h1, h2, h3])
    go_enter Try.func13, Try.ntmps13
    go_wp2_with fail
    refine (rvalid_any _ _ _ _ _).mono ?_
    rintro e w1 ⟨rfl, hb⟩
    have B := thn (below_alloc3 w _ _ _) hb
    obtain ⟨c0, c1, c2, c3, f0, f1, f2, f3, l0⟩ := (((cell4_new w _ _ _ _ _).alc _).alc _).next hb
    obtain ⟨k0, k1, g0, g1, l1⟩ := ((cellp_new _ _ _ _).alc _).next hb
    obtain ⟨z0, z1, z2, z3, y0, y1, y2, y3, l2⟩ := (cell4_new _ _ _ _ _ _).next hb
    simp only [World.alloc, Array.size_push] at k0 k1 g0 g1 l1 z0 z1 z2 z3 y0 y1 y2 y3 l2
    rw [h1]
    go_wp2_with (first | (go_at_call 30; refine (rwithin_any _ _ _ _).mono ?_; rintro e w' ⟨rfl, rfl⟩))
    exact bodyPost_ret (v := .tuple #[boxV 0 0 0 0, .int .i64 2]) (by simp [results, Try.results13, go_sem, *]) rfl ⟨bx5 hh.out.symm, by repeat (first | exact B | refine Below.setCell ?_ (by simp; omega) _)⟩
  · have hh := Lib.hid (show coast x y r s a b d t = (0, 0, 0, 0, 2) by simp [coast, okv, h1, h2, h3, h4])
    go_enter Try.func13, Try.ntmps13
    go_wp2_with fail
    refine (rvalid_any _ _ _ _ _).mono ?_
    rintro e w1 ⟨rfl, hb⟩
    have B := thn (below_alloc3 w _ _ _) hb
    obtain ⟨c0, c1, c2, c3, f0, f1, f2, f3, l0⟩ := (((cell4_new w _ _ _ _ _).alc _).alc _).next hb
    obtain ⟨k0, k1, g0, g1, l1⟩ := ((cellp_new _ _ _ _).alc _).next hb
    obtain ⟨z0, z1, z2, z3, y0, y1, y2, y3, l2⟩ := (cell4_new _ _ _ _ _ _).next hb
    simp only [World.alloc, Array.size_push] at k0 k1 g0 g1 l1 z0 z1 z2 z3 y0 y1 y2 y3 l2
    rw [h1]
    go_wp2_with (first | (go_at_call 30; refine (rwithin_any _ _ _ _).mono ?_; rintro e w' ⟨rfl, rfl⟩))
    exact bodyPost_ret (v := .tuple #[boxV 0 0 0 0, .int .i64 2]) (by simp [results, Try.results13, go_sem, *]) rfl ⟨bx5 hh.out.symm, by repeat (first | exact B | refine Below.setCell ?_ (by simp; omega) _)⟩
  · have hh := Lib.hid (show coast x y r s a b d t = (0, 0, 0, 0, 2) by simp [coast, okv, h1, h2, h3, h4, h5])
    go_enter Try.func13, Try.ntmps13
    go_wp2_with fail
    refine (rvalid_any _ _ _ _ _).mono ?_
    rintro e w1 ⟨rfl, hb⟩
    have B := thn (below_alloc3 w _ _ _) hb
    obtain ⟨c0, c1, c2, c3, f0, f1, f2, f3, l0⟩ := (((cell4_new w _ _ _ _ _).alc _).alc _).next hb
    obtain ⟨k0, k1, g0, g1, l1⟩ := ((cellp_new _ _ _ _).alc _).next hb
    obtain ⟨z0, z1, z2, z3, y0, y1, y2, y3, l2⟩ := (cell4_new _ _ _ _ _ _).next hb
    simp only [World.alloc, Array.size_push] at k0 k1 g0 g1 l1 z0 z1 z2 z3 y0 y1 y2 y3 l2
    rw [h1]
    go_wp2_with (first | (go_at_call 30; refine (rwithin_any _ _ _ _).mono ?_; rintro e w' ⟨rfl, rfl⟩))
    exact bodyPost_ret (v := .tuple #[boxV 0 0 0 0, .int .i64 2]) (by simp [results, Try.results13, go_sem, *]) rfl ⟨bx5 hh.out.symm, by repeat (first | exact B | refine Below.setCell ?_ (by simp; omega) _)⟩
  · obtain ⟨⟨m0, m1⟩, ⟨m2, m3⟩, ⟨m4, m5⟩, m6, m7⟩ := bv_of h1
    have ⟨a0, a1⟩ := inb_of h2
    have ⟨b0, b1⟩ := inb_of h3
    have ⟨d0, d1⟩ := inb_of h4
    have ⟨t0, t1⟩ := inb_of h5
    have ⟨p0, p1⟩ := mulb a0 a1 t0 t1
    have ⟨p2, p3⟩ := mulb b0 b1 t0 t1
    have ⟨p4, p5⟩ := mulb (show -2000 ≤ d by omega) (show d ≤ 2000 by omega) t0 t1
    cases h6 : bv (x + a * t) (y + b * t) (r + d * t) (s + d * t)
    · have hh := Lib.hid (show coast x y r s a b d t = (0, 0, 0, 0, 2) by simp [coast, okv, h1, h2, h3, h4, h5, h6])
      have H6 := Lib.hid h6
      clear h6
      go_enter Try.func13, Try.ntmps13
      go_wp2_with fail
      refine (rvalid_any _ _ _ _ _).mono ?_
      rintro e w1 ⟨rfl, hb⟩
      have B := thn (below_alloc3 w _ _ _) hb
      have T := (((cell4_new w _ _ _ _ _).alc _).alc _).next hb
      have Z := (cell4_new _ _ _ _ _ _).next hb
      obtain ⟨k0, k1, g0, g1, l1⟩ := ((cellp_new _ _ _ _).alc _).next hb
      simp only [World.alloc, Array.size_push] at k0 k1 g0 g1 l1 Z
      obtain ⟨c0, c1, c2, c3, f0, f1, f2, f3, l0⟩ := id T
      obtain ⟨z0, z1, z2, z3, y0, y1, y2, y3, l2⟩ := id Z
      rw [h1]
      go_wp2_with (first | (go_at_call 30; refine (rwithin_any _ _ _ _).mono ?_; rintro e w' ⟨rfl, rfl⟩))
      refine (rvalid_any _ _ _ _ _).mono ?_
      rintro e w2 ⟨rfl, hb2⟩
      rw [H6.out]
      have TB := (cell4_new w1 (.int .i64 (x + a * t)) (.int .i64 (y + b * t)) (.int .i64 (r + d * t)) (.int .i64 (s + d * t)) _).next hb2
      have TZ := (Z.alc _).next hb2
      replace B := thn (alc B _) hb2
      clear c0 c1 c2 c3 f0 f1 f2 f3 l0 k0 k1 g0 g1 l1 z0 z1 z2 z3 y0 y1 y2 y3 l2
      obtain ⟨c0, c1, c2, c3, f0, f1, f2, f3, l0⟩ := TB
      obtain ⟨z0, z1, z2, z3, y0, y1, y2, y3, l2⟩ := TZ
      go_wp2
      exact bodyPost_ret (v := .tuple #[boxV 0 0 0 0, .int .i64 2]) (by simp [results, Try.results13, go_sem, *]) rfl ⟨bx5 hh.out.symm, by repeat (first | exact B | refine Below.setCell ?_ (by simp; omega) _)⟩
    · have hh := Lib.hid (show coast x y r s a b d t = (x + a * t, y + b * t, r + d * t, s + d * t, 0) by simp [coast, okv, h1, h2, h3, h4, h5, h6])
      have H6 := Lib.hid h6
      clear h6
      go_enter Try.func13, Try.ntmps13
      go_wp2_with fail
      refine (rvalid_any _ _ _ _ _).mono ?_
      rintro e w1 ⟨rfl, hb⟩
      have B := thn (below_alloc3 w _ _ _) hb
      have T := (((cell4_new w _ _ _ _ _).alc _).alc _).next hb
      have Z := (cell4_new _ _ _ _ _ _).next hb
      obtain ⟨k0, k1, g0, g1, l1⟩ := ((cellp_new _ _ _ _).alc _).next hb
      simp only [World.alloc, Array.size_push] at k0 k1 g0 g1 l1 Z
      obtain ⟨c0, c1, c2, c3, f0, f1, f2, f3, l0⟩ := id T
      obtain ⟨z0, z1, z2, z3, y0, y1, y2, y3, l2⟩ := id Z
      rw [h1]
      go_wp2_with (first | (go_at_call 30; refine (rwithin_any _ _ _ _).mono ?_; rintro e w' ⟨rfl, rfl⟩))
      refine (rvalid_any _ _ _ _ _).mono ?_
      rintro e w2 ⟨rfl, hb2⟩
      rw [H6.out]
      have TB := (cell4_new w1 (.int .i64 (x + a * t)) (.int .i64 (y + b * t)) (.int .i64 (r + d * t)) (.int .i64 (s + d * t)) _).next hb2
      have TZ := (Z.alc _).next hb2
      replace B := thn (alc B _) hb2
      clear c0 c1 c2 c3 f0 f1 f2 f3 l0 k0 k1 g0 g1 l1 z0 z1 z2 z3 y0 y1 y2 y3 l2
      obtain ⟨c0, c1, c2, c3, f0, f1, f2, f3, l0⟩ := TB
      obtain ⟨z0, z1, z2, z3, y0, y1, y2, y3, l2⟩ := TZ
      go_wp2
      exact bodyPost_ret (v := .tuple #[boxV (x + a * t) (y + b * t) (r + d * t) (s + d * t), .int .i64 0]) (by simp [results, Try.results13, go_sem, *]) rfl ⟨bx5 hh.out.symm, by repeat (first | exact B | refine Below.setCell ?_ (by simp; omega) _)⟩
end Go.Proofs.Ytfeoladkpgojpaa
