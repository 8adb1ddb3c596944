/- Points and boxes: what is valid, what is inside. -/
import Derived.Test.YtfeoladkpgojpaaAngle
namespace Go.Proofs.Ytfeoladkpgojpaa
open Go.RowKit
set_option linter.unusedVariables false

def inb (x lo hi : Int) : Bool := decide (lo ≤ x) && decide (x ≤ hi)
def pv (x y : Int) : Bool := inb x (-2000000) 2000000 && inb y (-2000000) 2000000
def bv (x y r s : Int) : Bool := pv x y && inb r 0 2000000 && inb s 0 2000000
abbrev boxV (x y r s : Int) : Value := .agg #[.int .i64 x, .int .i64 y, .int .i64 r, .int .i64 s]
abbrev ptV (x y : Int) : Value := .agg #[.int .i64 x, .int .i64 y]
theorem inb_t {x lo hi : Int} (h : lo ≤ x ∧ x ≤ hi) : inb x lo hi = true := by simp [inb, h.1, h.2]
theorem inb_f1 {x lo hi : Int} (h : ¬ lo ≤ x) : inb x lo hi = false := by simp [inb, h]
theorem inb_f2 {x lo hi : Int} (h : ¬ x ≤ hi) : inb x lo hi = false := by simp [inb, h]
theorem ret_b {a b : Bool} (h : a = b) : Ending.returned (.bool a) = .returned (.bool b) := by rw [h]
theorem sfrom_any (x lo hi : Int) (w : World) :
    Calls Try.prog 33 #[.int .i64 x, .int .i64 lo, .int .i64 hi] w fun e w' => e = .returned (.bool (inb x lo hi)) ∧ w = w' := by
  by_cases h1 : lo ≤ x
  · by_cases h2 : x ≤ hi
    · have b := Lib.hid (inb_t ⟨h1, h2⟩)
      go_enter Try.func33, Try.ntmps33
      go_wp2
      go_ret
      exact ⟨ret_b b.out.symm, rfl⟩
    · have b := Lib.hid (inb_f2 (lo := lo) h2)
      go_enter Try.func33, Try.ntmps33
      go_wp2
      go_ret
      exact ⟨ret_b b.out.symm, rfl⟩
  · have b := Lib.hid (inb_f1 (hi := hi) h1)
    go_enter Try.func33, Try.ntmps33
    go_wp2
    go_ret
    exact ⟨ret_b b.out.symm, rfl⟩
theorem ifrom_any (x lo hi : Int) (w : World) :
    Calls Try.prog 29 #[.int .i64 x, .int .i64 lo, .int .i64 hi] w fun e w' => e = .returned (.bool (inb x lo hi)) ∧ w = w' := by
  by_cases h1 : lo ≤ x
  · by_cases h2 : x ≤ hi
    · have b := Lib.hid (inb_t ⟨h1, h2⟩)
      go_enter Try.func29, Try.ntmps29
      go_wp2
      go_ret
      exact ⟨ret_b b.out.symm, rfl⟩
    · have b := Lib.hid (inb_f2 (lo := lo) h2)
      go_enter Try.func29, Try.ntmps29
      go_wp2
      go_ret
      exact ⟨ret_b b.out.symm, rfl⟩
  · have b := Lib.hid (inb_f1 (hi := hi) h1)
    go_enter Try.func29, Try.ntmps29
    go_wp2
    go_ret
    exact ⟨ret_b b.out.symm, rfl⟩
theorem rwithin_any (x lo hi : Int) (w : World) :
    Calls Try.prog 30 #[.int .i64 x, .int .i64 lo, .int .i64 hi] w fun e w' => e = .returned (.bool (inb x lo hi)) ∧ w = w' := by
  by_cases h1 : lo ≤ x
  · by_cases h2 : x ≤ hi
    · have b := Lib.hid (inb_t ⟨h1, h2⟩)
      go_enter Try.func30, Try.ntmps30
      go_wp2
      go_ret
      exact ⟨ret_b b.out.symm, rfl⟩
    · have b := Lib.hid (inb_f2 (lo := lo) h2)
      go_enter Try.func30, Try.ntmps30
      go_wp2
      go_ret
      exact ⟨ret_b b.out.symm, rfl⟩
  · have b := Lib.hid (inb_f1 (hi := hi) h1)
    go_enter Try.func30, Try.ntmps30
    go_wp2
    go_ret
    exact ⟨ret_b b.out.symm, rfl⟩
theorem pvalid_any (x y : Int) (w : World) :
    Calls Try.prog 48 #[ptV x y] w fun e w' => e = .returned (.bool (pv x y)) ∧ Below w.heap.size w w' := by
  by_cases h1 : -2000000 ≤ x
  · by_cases h2 : x ≤ 2000000
    · by_cases h3 : -2000000 ≤ y
      · by_cases h4 : y ≤ 2000000
        · have b := Lib.hid (show pv x y = true by simp [pv, inb, h1, h2, h3, h4])
          go_enter Try.func48, Try.ntmps48
          go_wp2
          go_ret
          exact ⟨ret_b b.out.symm, by first | exact Below.refl _ _ | exact (Below.refl _ _).alloc (Nat.le_refl _) _⟩
        · have b := Lib.hid (show pv x y = false by simp [pv, inb, h4])
          go_enter Try.func48, Try.ntmps48
          go_wp2
          go_ret
          exact ⟨ret_b b.out.symm, by first | exact Below.refl _ _ | exact (Below.refl _ _).alloc (Nat.le_refl _) _⟩
      · have b := Lib.hid (show pv x y = false by simp [pv, inb, h3])
        go_enter Try.func48, Try.ntmps48
        go_wp2
        go_ret
        exact ⟨ret_b b.out.symm, by first | exact Below.refl _ _ | exact (Below.refl _ _).alloc (Nat.le_refl _) _⟩
    · have b := Lib.hid (show pv x y = false by simp [pv, inb, h2])
      go_enter Try.func48, Try.ntmps48
      go_wp2
      go_ret
      exact ⟨ret_b b.out.symm, by first | exact Below.refl _ _ | exact (Below.refl _ _).alloc (Nat.le_refl _) _⟩
  · have b := Lib.hid (show pv x y = false by simp [pv, inb, h1])
    go_enter Try.func48, Try.ntmps48
    go_wp2
    go_ret
    exact ⟨ret_b b.out.symm, by first | exact Below.refl _ _ | exact (Below.refl _ _).alloc (Nat.le_refl _) _⟩
theorem rpvalid_any (x y : Int) (w : World) :
    Calls Try.prog 31 #[ptV x y] w fun e w' => e = .returned (.bool (pv x y)) ∧ Below w.heap.size w w' := by
  by_cases h1 : -2000000 ≤ x
  · by_cases h2 : x ≤ 2000000
    · by_cases h3 : -2000000 ≤ y
      · by_cases h4 : y ≤ 2000000
        · have b := Lib.hid (show pv x y = true by simp [pv, inb, h1, h2, h3, h4])
          go_enter Try.func31, Try.ntmps31
          go_wp2
          go_ret
          exact ⟨ret_b b.out.symm, by first | exact Below.refl _ _ | exact (Below.refl _ _).alloc (Nat.le_refl _) _⟩
        · have b := Lib.hid (show pv x y = false by simp [pv, inb, h4])
          go_enter Try.func31, Try.ntmps31
          go_wp2
          go_ret
          exact ⟨ret_b b.out.symm, by first | exact Below.refl _ _ | exact (Below.refl _ _).alloc (Nat.le_refl _) _⟩
      · have b := Lib.hid (show pv x y = false by simp [pv, inb, h3])
        go_enter Try.func31, Try.ntmps31
        go_wp2
        go_ret
        exact ⟨ret_b b.out.symm, by first | exact Below.refl _ _ | exact (Below.refl _ _).alloc (Nat.le_refl _) _⟩
    · have b := Lib.hid (show pv x y = false by simp [pv, inb, h2])
      go_enter Try.func31, Try.ntmps31
      go_wp2
      go_ret
      exact ⟨ret_b b.out.symm, by first | exact Below.refl _ _ | exact (Below.refl _ _).alloc (Nat.le_refl _) _⟩
  · have b := Lib.hid (show pv x y = false by simp [pv, inb, h1])
    go_enter Try.func31, Try.ntmps31
    go_wp2
    go_ret
    exact ⟨ret_b b.out.symm, by first | exact Below.refl _ _ | exact (Below.refl _ _).alloc (Nat.le_refl _) _⟩
end Go.Proofs.Ytfeoladkpgojpaa
