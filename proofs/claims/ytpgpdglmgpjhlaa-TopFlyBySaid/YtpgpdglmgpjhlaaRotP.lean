/- Plain facts: exact rotations by whole units with rational sine and cosine; the program's sine, cosine and arc tangent against them. No program in sight. -/
import Derived.Test.YtpgpdglmgpjhlaaTrigP5
import Derived.Test.YtpgpdglmgpjhlaaTrigP6
import Derived.Test.YtpgpdglmgpjhlaaTrigP8
namespace Fdk
set_option linter.unusedVariables false
/-- the terms of the series. -/
def tk : Nat → Rat → Rat
  | 0, _ => 1
  | k + 1, y => tk k y * y / ((k : Rat) + 1)
theorem tk_mul (k : Nat) (y : Rat) : ((k : Rat) + 1) * tk (k + 1) y = tk k y * y := by
  have h : 0 ≤ (k : Rat) := Rat.natCast_nonneg
  show ((k : Rat) + 1) * (tk k y * y / ((k : Rat) + 1)) = _
  have : ((k : Rat) + 1) ≠ 0 := by grind
  rw [Rat.mul_comm, Rat.div_mul_cancel this]
theorem kpos (k : Nat) : 0 ≤ (k : Rat) := Rat.natCast_nonneg
theorem tk_b {y : Rat} (h0 : 0 ≤ y) (h1 : y ≤ 1) (k : Nat) : 0 ≤ tk k y ∧ tk k y ≤ 1 := by
  induction k with
  | zero => exact ⟨by unfold tk; grind, by unfold tk; grind⟩
  | succ k ih =>
    have hm := tk_mul k y
    have hk := kpos k
    obtain ⟨i0, i1⟩ := ih
    have p0 := Rat.mul_nonneg i0 h0
    have p1 : tk k y * y ≤ 1 := by
      have := Rat.mul_nonneg i0 (b := 1 - y) (by grind)
      grind
    generalize tk k y * y = P at *
    generalize tk (k + 1) y = X at *
    generalize (k : Rat) = K at *
    constructor
    · refine Classical.byContradiction fun hc => ?_
      have := Rat.mul_nonneg (a := K + 1) (b := -X) (by grind) (by grind)
      have hx : X < 0 := by grind
      have := Rat.mul_pos (a := K + 1) (b := -X) (by grind) (by grind)
      grind
    · refine Classical.byContradiction fun hc => ?_
      have := Rat.mul_pos (a := K + 1) (b := X - 1) (by grind) (by grind)
      grind
theorem tstep {y u N A0 A1 A2 A3 B2 B3 : Rat} (hN : 3 ≤ N) (y0 : 0 ≤ y) (u0 : 0 ≤ u) (yu : y + u ≤ 1) (a0 : 0 ≤ A0) (a1 : A0 ≤ 1) (h3 : N * A3 = A2 * y) (h2 : (N - 1) * A2 = A1 * y) (h1 : (N - 2) * A1 = A0 * y) (hB : N * B3 = B2 * (y + u))
    (hr : 0 ≤ B2 - (A2 + u * A1 + u * u / 2 * A0)) (hs : B2 - (A2 + u * A1 + u * u / 2 * A0) ≤ u * u * u) : 0 ≤ B3 - (A3 + u * A2 + u * u / 2 * A1) ∧ B3 - (A3 + u * A2 + u * u / 2 * A1) ≤ u * u * u := by
  have I : N * (B3 - (A3 + u * A2 + u * u / 2 * A1)) = u * u * u / 2 * A0 + (y + u) * (B2 - (A2 + u * A1 + u * u / 2 * A0)) := by
    have e1 : y * A1 = (N - 1) * A2 := by grind
    have e2 : y * A0 = (N - 2) * A1 := by grind
    have e3 : y * A2 = N * A3 := by grind
    grind
  generalize hR : B3 - (A3 + u * A2 + u * u / 2 * A1) = R at *
  generalize B2 - (A2 + u * A1 + u * u / 2 * A0) = r at *
  have u2 := Rat.mul_nonneg u0 u0
  have u3 := Rat.mul_nonneg u2 u0
  have p1 := Rat.mul_nonneg u3 a0
  have p2 := Rat.mul_nonneg u3 (b := 1 - A0) (by grind)
  have p3 := Rat.mul_nonneg (a := y + u) (by grind) hr
  have p4 : (y + u) * r ≤ r := by have := Rat.mul_nonneg (a := 1 - (y + u)) (by grind) hr; grind
  generalize u * u * u = W at *
  generalize (y + u) * r = V at *
  constructor
  · refine Classical.byContradiction fun hc => ?_
    have := Rat.mul_pos (a := N) (b := -R) (by grind) (by grind)
    grind
  · refine Classical.byContradiction fun hc => ?_
    have h5 : W < R := by grind
    have h8 := Rat.mul_pos (a := N) (b := R - W) (by grind) (by grind)
    have h6 := Rat.mul_nonneg (a := N - 3) (b := W) (by grind) u3
    have h9 : W * A0 ≤ W := by grind
    have I' : N * R = (W * A0) / 2 + V := by rw [I]; grind
    clear I
    have h7 : N * R = N * (R - W) + (N - 3) * W + 3 * W := by grind
    clear p1 p2 p3 h3 h2 h1 hB hR
    generalize N * (R - W) = P1 at *
    generalize (N - 3) * W = P2 at *
    generalize N * R = P3 at *
    generalize W * A0 = P4 at *
    grind
/-- a term at a small step further. -/
theorem tk_step {y u : Rat} (y0 : 0 ≤ y) (u0 : 0 ≤ u) (yu : y + u ≤ 1) (k : Nat) : 0 ≤ tk (k + 2) (y + u) - (tk (k + 2) y + u * tk (k + 1) y + u * u / 2 * tk k y) ∧ tk (k + 2) (y + u) - (tk (k + 2) y + u * tk (k + 1) y + u * u / 2 * tk k y) ≤ u * u * u := by
  induction k with
  | zero =>
    have e0 : ∀ z : Rat, tk 0 z = 1 := fun z => rfl
    have e1 : ∀ z : Rat, tk 1 z = z := fun z => by have := tk_mul 0 z; rw [e0] at this; have h : ((0 : Nat) : Rat) = 0 := rfl; rw [h] at this; grind
    have e2 : ∀ z : Rat, 2 * tk 2 z = z * z := fun z => by have := tk_mul 1 z; rw [e1] at this; have h : ((1 : Nat) : Rat) = 1 := rfl; rw [h] at this; grind
    have h1 := e2 y
    have h2 := e2 (y + u)
    have u2 := Rat.mul_nonneg u0 u0
    have u3 := Rat.mul_nonneg u2 u0
    show 0 ≤ tk 2 (y + u) - (tk 2 y + u * tk 1 y + u * u / 2 * tk 0 y) ∧ tk 2 (y + u) - (tk 2 y + u * tk 1 y + u * u / 2 * tk 0 y) ≤ u * u * u
    rw [e1, e0]
    constructor <;> grind
  | succ k ih =>
    have hk := kpos k
    have e : ∀ j : Nat, ((k + j : Nat) : Rat) = (k : Rat) + (j : Rat) := fun j => Rat.natCast_add k j
    have e1 : ((k + 1 : Nat) : Rat) = (k : Rat) + 1 := e 1
    have e2 : ((k + 2 : Nat) : Rat) = (k : Rat) + 2 := e 2
    have m3 := tk_mul (k + 2) y
    have m2 := tk_mul (k + 1) y
    have m1 := tk_mul k y
    have m4 := tk_mul (k + 2) (y + u)
    rw [e2] at m3 m4
    rw [e1] at m2
    have b := tk_b y0 (by grind) k
    exact tstep (N := (k : Rat) + 3) (by grind) y0 u0 yu b.1 b.2 (by grind) (by grind) (by grind) (by grind) ih.1 ih.2
def CF (y : Rat) : Rat := tk 0 y - tk 2 y + tk 4 y - tk 6 y + tk 8 y - tk 10 y + tk 12 y - tk 14 y + tk 16 y - tk 18 y
def SF (y : Rat) : Rat := tk 1 y - tk 3 y + tk 5 y - tk 7 y + tk 9 y - tk 11 y + tk 13 y - tk 15 y + tk 17 y - tk 19 y
theorem tk_fac {y : Rat} (y0 : 0 ≤ y) (y1 : y ≤ 1) (k : Nat) : ((k : Rat) + 1) * tk (k + 1) y ≤ tk k y := by
  rw [tk_mul]
  have b := tk_b y0 y1 k
  have := Rat.mul_nonneg b.1 (b := 1 - y) (by grind)
  grind
theorem caps {y : Rat} (y0 : 0 ≤ y) (y1 : y ≤ 1) : tk 18 y ≤ 1 / 6402373705728000 ∧ tk 19 y ≤ 1 / 121645100408832000 := by
  have f0 : tk 0 y = 1 := rfl
  have f1 := tk_fac y0 y1 0
  have f2 := tk_fac y0 y1 1
  have f3 := tk_fac y0 y1 2
  have f4 := tk_fac y0 y1 3
  have f5 := tk_fac y0 y1 4
  have f6 := tk_fac y0 y1 5
  have f7 := tk_fac y0 y1 6
  have f8 := tk_fac y0 y1 7
  have f9 := tk_fac y0 y1 8
  have f10 := tk_fac y0 y1 9
  have f11 := tk_fac y0 y1 10
  have f12 := tk_fac y0 y1 11
  have f13 := tk_fac y0 y1 12
  have f14 := tk_fac y0 y1 13
  have f15 := tk_fac y0 y1 14
  have f16 := tk_fac y0 y1 15
  have f17 := tk_fac y0 y1 16
  have f18 := tk_fac y0 y1 17
  have f19 := tk_fac y0 y1 18
  have c1 : ((0 : Nat) : Rat) = 0 := rfl
  have c2 : ((1 : Nat) : Rat) = 1 := rfl
  have c3 : ((2 : Nat) : Rat) = 2 := rfl
  have c4 : ((3 : Nat) : Rat) = 3 := rfl
  have c5 : ((4 : Nat) : Rat) = 4 := rfl
  have c6 : ((5 : Nat) : Rat) = 5 := rfl
  have c7 : ((6 : Nat) : Rat) = 6 := rfl
  have c8 : ((7 : Nat) : Rat) = 7 := rfl
  have c9 : ((8 : Nat) : Rat) = 8 := rfl
  have c10 : ((9 : Nat) : Rat) = 9 := rfl
  have c11 : ((10 : Nat) : Rat) = 10 := rfl
  have c12 : ((11 : Nat) : Rat) = 11 := rfl
  have c13 : ((12 : Nat) : Rat) = 12 := rfl
  have c14 : ((13 : Nat) : Rat) = 13 := rfl
  have c15 : ((14 : Nat) : Rat) = 14 := rfl
  have c16 : ((15 : Nat) : Rat) = 15 := rfl
  have c17 : ((16 : Nat) : Rat) = 16 := rfl
  have c18 : ((17 : Nat) : Rat) = 17 := rfl
  have c19 : ((18 : Nat) : Rat) = 18 := rfl
  rw [c1] at f1
  rw [c2] at f2
  rw [c3] at f3
  rw [c4] at f4
  rw [c5] at f5
  rw [c6] at f6
  rw [c7] at f7
  rw [c8] at f8
  rw [c9] at f9
  rw [c10] at f10
  rw [c11] at f11
  rw [c12] at f12
  rw [c13] at f13
  rw [c14] at f14
  rw [c15] at f15
  rw [c16] at f16
  rw [c17] at f17
  rw [c18] at f18
  rw [c19] at f19
  rw [f0] at f1
  generalize tk 1 y = a1 at *
  generalize tk 2 y = a2 at *
  generalize tk 3 y = a3 at *
  generalize tk 4 y = a4 at *
  generalize tk 5 y = a5 at *
  generalize tk 6 y = a6 at *
  generalize tk 7 y = a7 at *
  generalize tk 8 y = a8 at *
  generalize tk 9 y = a9 at *
  generalize tk 10 y = a10 at *
  generalize tk 11 y = a11 at *
  generalize tk 12 y = a12 at *
  generalize tk 13 y = a13 at *
  generalize tk 14 y = a14 at *
  generalize tk 15 y = a15 at *
  generalize tk 16 y = a16 at *
  generalize tk 17 y = a17 at *
  generalize tk 18 y = a18 at *
  generalize tk 19 y = a19 at *
  have g1 : a1 ≤ 1 / 1 := by grind
  clear f1
  have g2 : a2 ≤ 1 / 2 := by grind
  clear f2 g1
  have g3 : a3 ≤ 1 / 6 := by grind
  clear f3 g2
  have g4 : a4 ≤ 1 / 24 := by grind
  clear f4 g3
  have g5 : a5 ≤ 1 / 120 := by grind
  clear f5 g4
  have g6 : a6 ≤ 1 / 720 := by grind
  clear f6 g5
  have g7 : a7 ≤ 1 / 5040 := by grind
  clear f7 g6
  have g8 : a8 ≤ 1 / 40320 := by grind
  clear f8 g7
  have g9 : a9 ≤ 1 / 362880 := by grind
  clear f9 g8
  have g10 : a10 ≤ 1 / 3628800 := by grind
  clear f10 g9
  have g11 : a11 ≤ 1 / 39916800 := by grind
  clear f11 g10
  have g12 : a12 ≤ 1 / 479001600 := by grind
  clear f12 g11
  have g13 : a13 ≤ 1 / 6227020800 := by grind
  clear f13 g12
  have g14 : a14 ≤ 1 / 87178291200 := by grind
  clear f14 g13
  have g15 : a15 ≤ 1 / 1307674368000 := by grind
  clear f15 g14
  have g16 : a16 ≤ 1 / 20922789888000 := by grind
  clear f16 g15
  have g17 : a17 ≤ 1 / 355687428096000 := by grind
  clear f17 g16
  have g18 : a18 ≤ 1 / 6402373705728000 := by grind
  clear f18 g17
  have g19 : a19 ≤ 1 / 121645100408832000 := by grind
  clear f19
  exact ⟨g18, g19⟩
theorem cf_step {y u : Rat} (y0 : 0 ≤ y) (u0 : 0 ≤ u) (yu : y + u ≤ 1) :
    -(10 * (u * u * u)) - u * tk 19 y - u * u / 2 * tk 18 y ≤ CF (y + u) - (CF y - u * SF y - u * u / 2 * CF y) ∧ CF (y + u) - (CF y - u * SF y - u * u / 2 * CF y) ≤ 10 * (u * u * u) + u * tk 19 y + u * u / 2 * tk 18 y := by
  have b18 := (tk_b y0 (by grind) 18).1
  have b19 := (tk_b y0 (by grind) 19).1
  have p18 := Rat.mul_nonneg (Rat.mul_nonneg u0 u0) b18
  have p19 := Rat.mul_nonneg u0 b19
  have t2 := tk_step y0 u0 yu 0
  have t4 := tk_step y0 u0 yu 2
  have t6 := tk_step y0 u0 yu 4
  have t8 := tk_step y0 u0 yu 6
  have t10 := tk_step y0 u0 yu 8
  have t12 := tk_step y0 u0 yu 10
  have t14 := tk_step y0 u0 yu 12
  have t16 := tk_step y0 u0 yu 14
  have t18 := tk_step y0 u0 yu 16
  unfold CF SF
  have e0 : ∀ z : Rat, tk 0 z = 1 := fun z => rfl
  rw [e0, e0]
  have I : (1 - tk 2 (y + u) + tk 4 (y + u) - tk 6 (y + u) + tk 8 (y + u) - tk 10 (y + u) + tk 12 (y + u) - tk 14 (y + u) + tk 16 (y + u) - tk 18 (y + u)) - (1 - tk 2 y + tk 4 y - tk 6 y + tk 8 y - tk 10 y + tk 12 y - tk 14 y + tk 16 y - tk 18 y - u * (tk 1 y - tk 3 y + tk 5 y - tk 7 y + tk 9 y - tk 11 y + tk 13 y - tk 15 y + tk 17 y - tk 19 y) - u * u / 2 * (1 - tk 2 y + tk 4 y - tk 6 y + tk 8 y - tk 10 y + tk 12 y - tk 14 y + tk 16 y - tk 18 y)) =
      -(tk (0 + 2) (y + u) - (tk (0 + 2) y + u * tk (0 + 1) y + u * u / 2 * 1)) + (tk (2 + 2) (y + u) - (tk (2 + 2) y + u * tk (2 + 1) y + u * u / 2 * tk 2 y)) - (tk (4 + 2) (y + u) - (tk (4 + 2) y + u * tk (4 + 1) y + u * u / 2 * tk 4 y)) + (tk (6 + 2) (y + u) - (tk (6 + 2) y + u * tk (6 + 1) y + u * u / 2 * tk 6 y)) - (tk (8 + 2) (y + u) - (tk (8 + 2) y + u * tk (8 + 1) y + u * u / 2 * tk 8 y)) + (tk (10 + 2) (y + u) - (tk (10 + 2) y + u * tk (10 + 1) y + u * u / 2 * tk 10 y)) - (tk (12 + 2) (y + u) - (tk (12 + 2) y + u * tk (12 + 1) y + u * u / 2 * tk 12 y)) + (tk (14 + 2) (y + u) - (tk (14 + 2) y + u * tk (14 + 1) y + u * u / 2 * tk 14 y)) - (tk (16 + 2) (y + u) - (tk (16 + 2) y + u * tk (16 + 1) y + u * u / 2 * tk 16 y)) - u * tk 19 y - u * u / 2 * tk 18 y := by grind
  rw [I]
  rw [e0] at t2
  generalize tk (0 + 2) (y + u) - (tk (0 + 2) y + u * tk (0 + 1) y + u * u / 2 * 1) = r2 at *
  generalize tk (2 + 2) (y + u) - (tk (2 + 2) y + u * tk (2 + 1) y + u * u / 2 * tk 2 y) = r4 at *
  generalize tk (4 + 2) (y + u) - (tk (4 + 2) y + u * tk (4 + 1) y + u * u / 2 * tk 4 y) = r6 at *
  generalize tk (6 + 2) (y + u) - (tk (6 + 2) y + u * tk (6 + 1) y + u * u / 2 * tk 6 y) = r8 at *
  generalize tk (8 + 2) (y + u) - (tk (8 + 2) y + u * tk (8 + 1) y + u * u / 2 * tk 8 y) = r10 at *
  generalize tk (10 + 2) (y + u) - (tk (10 + 2) y + u * tk (10 + 1) y + u * u / 2 * tk 10 y) = r12 at *
  generalize tk (12 + 2) (y + u) - (tk (12 + 2) y + u * tk (12 + 1) y + u * u / 2 * tk 12 y) = r14 at *
  generalize tk (14 + 2) (y + u) - (tk (14 + 2) y + u * tk (14 + 1) y + u * u / 2 * tk 14 y) = r16 at *
  generalize tk (16 + 2) (y + u) - (tk (16 + 2) y + u * tk (16 + 1) y + u * u / 2 * tk 16 y) = r18 at *
  generalize u * u * u = W at *
  generalize u * tk 19 y = V1 at *
  have e : u * u / 2 * tk 18 y = (u * u * tk 18 y) / 2 := by grind
  rw [e]
  generalize u * u * tk 18 y = V2 at *
  clear I e0 e
  constructor <;> grind
theorem sf_step {y u : Rat} (y0 : 0 ≤ y) (u0 : 0 ≤ u) (yu : y + u ≤ 1) :
    -(10 * (u * u * u)) - u * u / 2 * tk 19 y ≤ SF (y + u) - (SF y + u * CF y - u * u / 2 * SF y) ∧ SF (y + u) - (SF y + u * CF y - u * u / 2 * SF y) ≤ 10 * (u * u * u) + u * u / 2 * tk 19 y := by
  have b19 := (tk_b y0 (by grind) 19).1
  have p19 := Rat.mul_nonneg (Rat.mul_nonneg u0 u0) b19
  have t3 := tk_step y0 u0 yu 1
  have t5 := tk_step y0 u0 yu 3
  have t7 := tk_step y0 u0 yu 5
  have t9 := tk_step y0 u0 yu 7
  have t11 := tk_step y0 u0 yu 9
  have t13 := tk_step y0 u0 yu 11
  have t15 := tk_step y0 u0 yu 13
  have t17 := tk_step y0 u0 yu 15
  have t19 := tk_step y0 u0 yu 17
  unfold CF SF
  have e0 : ∀ z : Rat, tk 0 z = 1 := fun z => rfl
  have e1 : ∀ z : Rat, tk 1 z = z := fun z => by have := tk_mul 0 z; rw [e0] at this; have h : ((0 : Nat) : Rat) = 0 := rfl; rw [h] at this; grind
  have I : (tk 1 (y + u) - tk 3 (y + u) + tk 5 (y + u) - tk 7 (y + u) + tk 9 (y + u) - tk 11 (y + u) + tk 13 (y + u) - tk 15 (y + u) + tk 17 (y + u) - tk 19 (y + u)) - ((tk 1 y - tk 3 y + tk 5 y - tk 7 y + tk 9 y - tk 11 y + tk 13 y - tk 15 y + tk 17 y - tk 19 y) + u * (tk 0 y - tk 2 y + tk 4 y - tk 6 y + tk 8 y - tk 10 y + tk 12 y - tk 14 y + tk 16 y - tk 18 y) - u * u / 2 * (tk 1 y - tk 3 y + tk 5 y - tk 7 y + tk 9 y - tk 11 y + tk 13 y - tk 15 y + tk 17 y - tk 19 y)) =
      -(tk (1 + 2) (y + u) - (tk (1 + 2) y + u * tk (1 + 1) y + u * u / 2 * tk 1 y)) + (tk (3 + 2) (y + u) - (tk (3 + 2) y + u * tk (3 + 1) y + u * u / 2 * tk 3 y)) - (tk (5 + 2) (y + u) - (tk (5 + 2) y + u * tk (5 + 1) y + u * u / 2 * tk 5 y)) + (tk (7 + 2) (y + u) - (tk (7 + 2) y + u * tk (7 + 1) y + u * u / 2 * tk 7 y)) - (tk (9 + 2) (y + u) - (tk (9 + 2) y + u * tk (9 + 1) y + u * u / 2 * tk 9 y)) + (tk (11 + 2) (y + u) - (tk (11 + 2) y + u * tk (11 + 1) y + u * u / 2 * tk 11 y)) - (tk (13 + 2) (y + u) - (tk (13 + 2) y + u * tk (13 + 1) y + u * u / 2 * tk 13 y)) + (tk (15 + 2) (y + u) - (tk (15 + 2) y + u * tk (15 + 1) y + u * u / 2 * tk 15 y)) - (tk (17 + 2) (y + u) - (tk (17 + 2) y + u * tk (17 + 1) y + u * u / 2 * tk 17 y)) - u * u / 2 * tk 19 y := by
    rw [e1, e1, e0]
    grind
  rw [I]
  generalize tk (1 + 2) (y + u) - (tk (1 + 2) y + u * tk (1 + 1) y + u * u / 2 * tk 1 y) = r3 at *
  generalize tk (3 + 2) (y + u) - (tk (3 + 2) y + u * tk (3 + 1) y + u * u / 2 * tk 3 y) = r5 at *
  generalize tk (5 + 2) (y + u) - (tk (5 + 2) y + u * tk (5 + 1) y + u * u / 2 * tk 5 y) = r7 at *
  generalize tk (7 + 2) (y + u) - (tk (7 + 2) y + u * tk (7 + 1) y + u * u / 2 * tk 7 y) = r9 at *
  generalize tk (9 + 2) (y + u) - (tk (9 + 2) y + u * tk (9 + 1) y + u * u / 2 * tk 9 y) = r11 at *
  generalize tk (11 + 2) (y + u) - (tk (11 + 2) y + u * tk (11 + 1) y + u * u / 2 * tk 11 y) = r13 at *
  generalize tk (13 + 2) (y + u) - (tk (13 + 2) y + u * tk (13 + 1) y + u * u / 2 * tk 13 y) = r15 at *
  generalize tk (15 + 2) (y + u) - (tk (15 + 2) y + u * tk (15 + 1) y + u * u / 2 * tk 15 y) = r17 at *
  generalize tk (17 + 2) (y + u) - (tk (17 + 2) y + u * tk (17 + 1) y + u * u / 2 * tk 17 y) = r19 at *
  generalize u * u * u = W at *
  have e : u * u / 2 * tk 19 y = (u * u * tk 19 y) / 2 := by grind
  rw [e]
  generalize u * u * tk 19 y = V2 at *
  clear I e0 e e1
  constructor <;> grind
/-- a unit of angle in radians. -/
def uu : Rat := 3622009729038561421 / 74709313498523684044800000
def cu : Rat := (1 - uu * uu / 4) / (1 + uu * uu / 4)
def su : Rat := uu / (1 + uu * uu / 4)
theorem uu_b : 0 < uu ∧ uu ≤ 484813682 / 10000000000000000 ∧ 484813681 / 10000000000000000 ≤ uu := by unfold uu; decide +kernel
theorem uu_3 : uu * uu * uu ≤ 114 / 1000000000000000000000000 := by unfold uu; decide +kernel
theorem cu_b : 0 ≤ cu - (1 - uu * uu / 2) ∧ cu - (1 - uu * uu / 2) ≤ 1 / 1000000000000000000000000000000 := by unfold cu uu; decide +kernel
theorem su_b : -(3 / 100000000000000000000000) ≤ su - uu ∧ su - uu ≤ 0 := by unfold su uu; decide +kernel
theorem csu : cu * cu + su * su = 1 := by unfold cu su uu; decide +kernel
theorem cu_1 : 0 ≤ cu ∧ cu ≤ 1 := by unfold cu uu; decide +kernel
theorem su_1 : 0 ≤ su ∧ su ≤ 484813682 / 10000000000000000 := by unfold su uu; decide +kernel
theorem uu_E : 16200000 * uu ≤ 7854 / 10000 := by unfold uu; decide +kernel
attribute [irreducible] uu cu su
def rp : Nat → Rat × Rat
  | 0 => (1, 0)
  | n + 1 => ((rp n).1 * cu - (rp n).2 * su, (rp n).2 * cu + (rp n).1 * su)
theorem rp_s1 (n : Nat) : (rp (n + 1)).1 = (rp n).1 * cu - (rp n).2 * su := rfl
theorem rp_s2 (n : Nat) : (rp (n + 1)).2 = (rp n).2 * cu + (rp n).1 * su := rfl
theorem rp_unit (n : Nat) : (rp n).1 * (rp n).1 + (rp n).2 * (rp n).2 = 1 := by
  induction n with
  | zero => decide +kernel
  | succ n ih =>
    rw [rp_s1, rp_s2]
    have h := csu
    generalize (rp n).1 = C at *
    generalize (rp n).2 = S at *
    have e : (C * cu - S * su) * (C * cu - S * su) + (S * cu + C * su) * (S * cu + C * su) = (C * C + S * S) * (cu * cu + su * su) := by grind
    rw [e, ih, h]; decide +kernel
theorem rp_add (m n : Nat) : (rp (m + n)).1 = (rp m).1 * (rp n).1 - (rp m).2 * (rp n).2 ∧ (rp (m + n)).2 = (rp m).2 * (rp n).1 + (rp m).1 * (rp n).2 := by
  induction n with
  | zero => exact ⟨by show (rp m).1 = (rp m).1 * 1 - (rp m).2 * 0; grind, by show (rp m).2 = (rp m).2 * 1 + (rp m).1 * 0; grind⟩
  | succ n ih =>
    obtain ⟨i1, i2⟩ := ih
    rw [show m + (n + 1) = (m + n) + 1 from rfl, rp_s1, rp_s2, rp_s1, rp_s2, i1, i2]
    constructor <;> grind
theorem CS_b {y : Rat} (y0 : 0 ≤ y) (y1 : y ≤ 1) : (-10 ≤ CF y ∧ CF y ≤ 10) ∧ (-10 ≤ SF y ∧ SF y ≤ 10) := by
  have b0 := tk_b y0 y1 0
  have b1 := tk_b y0 y1 1
  have b2 := tk_b y0 y1 2
  have b3 := tk_b y0 y1 3
  have b4 := tk_b y0 y1 4
  have b5 := tk_b y0 y1 5
  have b6 := tk_b y0 y1 6
  have b7 := tk_b y0 y1 7
  have b8 := tk_b y0 y1 8
  have b9 := tk_b y0 y1 9
  have b10 := tk_b y0 y1 10
  have b11 := tk_b y0 y1 11
  have b12 := tk_b y0 y1 12
  have b13 := tk_b y0 y1 13
  have b14 := tk_b y0 y1 14
  have b15 := tk_b y0 y1 15
  have b16 := tk_b y0 y1 16
  have b17 := tk_b y0 y1 17
  have b18 := tk_b y0 y1 18
  have b19 := tk_b y0 y1 19
  unfold CF SF
  refine ⟨⟨?_, ?_⟩, ?_, ?_⟩ <;> grind
/-- a product with a small factor. -/
theorem mulab {a b A B : Rat} (h1 : -A ≤ a) (h2 : a ≤ A) (h3 : -B ≤ b) (h4 : b ≤ B) : -(A * B) ≤ a * b ∧ a * b ≤ A * B := by
  have p1 := Rat.mul_nonneg (a := A - a) (b := B - b) (by grind) (by grind)
  have p2 := Rat.mul_nonneg (a := A + a) (b := B + b) (by grind) (by grind)
  have p3 := Rat.mul_nonneg (a := A - a) (b := B + b) (by grind) (by grind)
  have p4 := Rat.mul_nonneg (a := A + a) (b := B - b) (by grind) (by grind)
  constructor <;> grind
/-- how far a step's local error goes. -/
theorem loc_c {y : Rat} (y0 : 0 ≤ y) (y1 : y ≤ 7854/10000) : -(2 / 1000000000000000000000) ≤ CF (y + uu) - (CF y * cu - SF y * su) ∧ CF (y + uu) - (CF y * cu - SF y * su) ≤ 2 / 1000000000000000000000 := by
  have ⟨u0, u1, u2⟩ := uu_b
  have u3 := uu_3
  have st := cf_step y0 (u := uu) (by grind) (by grind)
  have ⟨c18, c19⟩ := caps y0 (by grind)
  have b18 := (tk_b y0 (by grind) 18).1
  have b19 := (tk_b y0 (by grind) 19).1
  have ⟨⟨x0, x1⟩, x2, x3⟩ := CS_b y0 (by grind)
  have ⟨d0, d1⟩ := cu_b
  have ⟨d2, d3⟩ := su_b
  have k1 := mulab (a := CF y) (b := cu - (1 - uu * uu / 2)) (A := 10) (B := 1 / 1000000000000000000000000000000) x0 x1 (by grind) d1
  have k2 := mulab (a := SF y) (b := su - uu) (A := 10) (B := 3 / 100000000000000000000000) x2 x3 d2 (by grind)
  have k3 := mulab (a := uu) (b := tk 19 y) (A := 484813682 / 10000000000000000) (B := 1 / 121645100408832000) (by grind) u1 (by grind) c19
  have q := mulab (a := uu) (b := uu) (A := 484813682 / 10000000000000000) (B := 484813682 / 10000000000000000) (by grind) u1 (by grind) u1
  have k4 := mulab (a := uu * uu / 2) (b := tk 18 y) (A := 1 / 100000000000000) (B := 1 / 6402373705728000) (by grind) (by grind) (by grind) c18
  have e : CF (y + uu) - (CF y * cu - SF y * su) = (CF (y + uu) - (CF y - uu * SF y - uu * uu / 2 * CF y)) - CF y * (cu - (1 - uu * uu / 2)) + SF y * (su - uu) := by grind
  rw [e]
  generalize CF (y + uu) - (CF y - uu * SF y - uu * uu / 2 * CF y) = T0 at *
  generalize CF y * (cu - (1 - uu * uu / 2)) = T1 at *
  generalize SF y * (su - uu) = T2 at *
  generalize uu * tk 19 y = T3 at *
  generalize uu * uu / 2 * tk 18 y = T4 at *
  generalize uu * uu * uu = T5 at *
  clear e q d0 d1 d2 d3 u0 u1 u2 x0 x1 x2 x3
  constructor <;> grind
theorem loc_s {y : Rat} (y0 : 0 ≤ y) (y1 : y ≤ 7854/10000) : -(2 / 1000000000000000000000) ≤ SF (y + uu) - (SF y * cu + CF y * su) ∧ SF (y + uu) - (SF y * cu + CF y * su) ≤ 2 / 1000000000000000000000 := by
  have ⟨u0, u1, u2⟩ := uu_b
  have u3 := uu_3
  have st := sf_step y0 (u := uu) (by grind) (by grind)
  have ⟨c18, c19⟩ := caps y0 (by grind)
  have b19 := (tk_b y0 (by grind) 19).1
  have ⟨⟨x0, x1⟩, x2, x3⟩ := CS_b y0 (by grind)
  have ⟨d0, d1⟩ := cu_b
  have ⟨d2, d3⟩ := su_b
  have k1 := mulab (a := SF y) (b := cu - (1 - uu * uu / 2)) (A := 10) (B := 1 / 1000000000000000000000000000000) x2 x3 (by grind) d1
  have k2 := mulab (a := CF y) (b := su - uu) (A := 10) (B := 3 / 100000000000000000000000) x0 x1 d2 (by grind)
  have q := mulab (a := uu) (b := uu) (A := 484813682 / 10000000000000000) (B := 484813682 / 10000000000000000) (by grind) u1 (by grind) u1
  have k4 := mulab (a := uu * uu / 2) (b := tk 19 y) (A := 1 / 100000000000000) (B := 1 / 121645100408832000) (by grind) (by grind) (by grind) c19
  have e : SF (y + uu) - (SF y * cu + CF y * su) = (SF (y + uu) - (SF y + uu * CF y - uu * uu / 2 * SF y)) - SF y * (cu - (1 - uu * uu / 2)) - CF y * (su - uu) := by grind
  rw [e]
  generalize SF (y + uu) - (SF y + uu * CF y - uu * uu / 2 * SF y) = T0 at *
  generalize SF y * (cu - (1 - uu * uu / 2)) = T1 at *
  generalize CF y * (su - uu) = T2 at *
  generalize uu * uu / 2 * tk 19 y = T4 at *
  generalize uu * uu * uu = T5 at *
  clear e q d0 d1 d2 d3 u0 u1 u2 x0 x1 x2 x3
  constructor <;> grind
/-- after n units. -/
theorem rp_near (n : Nat) (hn : n ≤ 16200000) : (-((n : Rat) / 100000000000000000000) ≤ (rp n).1 - CF ((n : Rat) * uu) ∧ (rp n).1 - CF ((n : Rat) * uu) ≤ (n : Rat) / 100000000000000000000) ∧
    (-((n : Rat) / 100000000000000000000) ≤ (rp n).2 - SF ((n : Rat) * uu) ∧ (rp n).2 - SF ((n : Rat) * uu) ≤ (n : Rat) / 100000000000000000000) := by
  induction n with
  | zero => decide +kernel
  | succ n ih =>
    obtain ⟨⟨i1, i2⟩, i3, i4⟩ := ih (by omega)
    have hk := kpos n
    have hN : (n : Rat) ≤ 16200000 := by
      have := rle (a := n) (b := 16200000) (by omega)
      rw [Rat.intCast_natCast] at this
      exact this
    have e : ((n + 1 : Nat) : Rat) = (n : Rat) + 1 := Rat.natCast_add n 1
    rw [e, rp_s1, rp_s2]
    have ⟨u0, u1, u2⟩ := uu_b
    have uE := uu_E
    have y0 : 0 ≤ (n : Rat) * uu := Rat.mul_nonneg hk (by grind)
    have y1 : (n : Rat) * uu ≤ 7854 / 10000 := by
      have := Rat.mul_nonneg (a := 16200000 - (n : Rat)) (b := uu) (by grind) (by grind)
      grind
    have lc := loc_c y0 y1
    have ls := loc_s y0 y1
    have ey : ((n : Rat) + 1) * uu = (n : Rat) * uu + uu := by grind
    rw [ey]
    have ⟨w0, w1⟩ := cu_1
    have ⟨w2, w3⟩ := su_1
    generalize (rp n).1 = C at *
    generalize (rp n).2 = S at *
    generalize CF ((n : Rat) * uu) = F at *
    generalize SF ((n : Rat) * uu) = G at *
    generalize CF ((n : Rat) * uu + uu) = F' at *
    generalize SF ((n : Rat) * uu + uu) = G' at *
    have a1 := mulab (a := C - F) (b := cu) (A := (n : Rat) / 100000000000000000000) (B := 1) i1 i2 (by grind) w1
    have a2 := mulab (a := S - G) (b := su) (A := (n : Rat) / 100000000000000000000) (B := su) i3 i4 (by grind) (by grind)
    have a3 := mulab (a := S - G) (b := cu) (A := (n : Rat) / 100000000000000000000) (B := 1) i3 i4 (by grind) w1
    have a4 := mulab (a := C - F) (b := su) (A := (n : Rat) / 100000000000000000000) (B := su) i1 i2 (by grind) (by grind)
    have ⟨v1, v2⟩ := su_b
    have hs : (n : Rat) * su ≤ 7854 / 10000 := by
      have := Rat.mul_nonneg hk (b := uu - su) (by grind)
      grind
    have hs0 : 0 ≤ (n : Rat) * su := Rat.mul_nonneg hk w2
    have es : (n : Rat) / 100000000000000000000 * su = (n : Rat) * su / 100000000000000000000 := by grind
    rw [es] at a2 a4
    have ec : C * cu - S * su - F' = (C - F) * cu - (S - G) * su - (F' - (F * cu - G * su)) := by grind
    have ed : S * cu + C * su - G' = (S - G) * cu + (C - F) * su - (G' - (G * cu + F * su)) := by grind
    rw [ec, ed]
    generalize (C - F) * cu = P1 at *
    generalize (S - G) * su = P2 at *
    generalize (S - G) * cu = P3 at *
    generalize (C - F) * su = P4 at *
    generalize F' - (F * cu - G * su) = P5 at *
    generalize G' - (G * cu + F * su) = P6 at *
    generalize (n : Rat) * su = X at *
    generalize (n : Rat) = K at *
    clear ec ed es i1 i2 i3 i4 ey e y0 y1 u0 u1 u2 uE w0 w1 w2 w3 v1 v2
    refine ⟨⟨?_, ?_⟩, ?_, ?_⟩ <;> grind
theorem SF_G (y : Rat) : SF y = y * G1 (y * y) := by
  have r1 : tk 1 y = y := by
    have a := tk_mul 0 y
    have e0 : tk 0 y = 1 := rfl
    have ca : ((0 : Nat) : Rat) = 0 := rfl
    rw [ca, e0] at a
    grind
  have r3 : tk 3 y = tk 1 y * (y * y) / 6 := by
    have a := tk_mul 1 y
    have b := tk_mul 2 y
    have ca : ((1 : Nat) : Rat) = 1 := rfl
    have cb : ((2 : Nat) : Rat) = 2 := rfl
    rw [ca] at a
    rw [cb] at b
    have e : 6 * tk 3 y = tk 1 y * (y * y) := by grind
    grind
  have r5 : tk 5 y = tk 3 y * (y * y) / 20 := by
    have a := tk_mul 3 y
    have b := tk_mul 4 y
    have ca : ((3 : Nat) : Rat) = 3 := rfl
    have cb : ((4 : Nat) : Rat) = 4 := rfl
    rw [ca] at a
    rw [cb] at b
    have e : 20 * tk 5 y = tk 3 y * (y * y) := by grind
    grind
  have r7 : tk 7 y = tk 5 y * (y * y) / 42 := by
    have a := tk_mul 5 y
    have b := tk_mul 6 y
    have ca : ((5 : Nat) : Rat) = 5 := rfl
    have cb : ((6 : Nat) : Rat) = 6 := rfl
    rw [ca] at a
    rw [cb] at b
    have e : 42 * tk 7 y = tk 5 y * (y * y) := by grind
    grind
  have r9 : tk 9 y = tk 7 y * (y * y) / 72 := by
    have a := tk_mul 7 y
    have b := tk_mul 8 y
    have ca : ((7 : Nat) : Rat) = 7 := rfl
    have cb : ((8 : Nat) : Rat) = 8 := rfl
    rw [ca] at a
    rw [cb] at b
    have e : 72 * tk 9 y = tk 7 y * (y * y) := by grind
    grind
  have r11 : tk 11 y = tk 9 y * (y * y) / 110 := by
    have a := tk_mul 9 y
    have b := tk_mul 10 y
    have ca : ((9 : Nat) : Rat) = 9 := rfl
    have cb : ((10 : Nat) : Rat) = 10 := rfl
    rw [ca] at a
    rw [cb] at b
    have e : 110 * tk 11 y = tk 9 y * (y * y) := by grind
    grind
  have r13 : tk 13 y = tk 11 y * (y * y) / 156 := by
    have a := tk_mul 11 y
    have b := tk_mul 12 y
    have ca : ((11 : Nat) : Rat) = 11 := rfl
    have cb : ((12 : Nat) : Rat) = 12 := rfl
    rw [ca] at a
    rw [cb] at b
    have e : 156 * tk 13 y = tk 11 y * (y * y) := by grind
    grind
  have r15 : tk 15 y = tk 13 y * (y * y) / 210 := by
    have a := tk_mul 13 y
    have b := tk_mul 14 y
    have ca : ((13 : Nat) : Rat) = 13 := rfl
    have cb : ((14 : Nat) : Rat) = 14 := rfl
    rw [ca] at a
    rw [cb] at b
    have e : 210 * tk 15 y = tk 13 y * (y * y) := by grind
    grind
  have r17 : tk 17 y = tk 15 y * (y * y) / 272 := by
    have a := tk_mul 15 y
    have b := tk_mul 16 y
    have ca : ((15 : Nat) : Rat) = 15 := rfl
    have cb : ((16 : Nat) : Rat) = 16 := rfl
    rw [ca] at a
    rw [cb] at b
    have e : 272 * tk 17 y = tk 15 y * (y * y) := by grind
    grind
  have r19 : tk 19 y = tk 17 y * (y * y) / 342 := by
    have a := tk_mul 17 y
    have b := tk_mul 18 y
    have ca : ((17 : Nat) : Rat) = 17 := rfl
    have cb : ((18 : Nat) : Rat) = 18 := rfl
    rw [ca] at a
    rw [cb] at b
    have e : 342 * tk 19 y = tk 17 y * (y * y) := by grind
    grind
  unfold SF
  rw [r19, r17, r15, r13, r11, r9, r7, r5, r3, r1]
  unfold G1 G2 G3 G4 G5 G6 G7 G8 G9
  grind
theorem CF_H (y : Rat) : CF y = H1 (y * y) := by
  have r0 : tk 0 y = 1 := rfl
  have r2 : tk 2 y = y * y / 2 := by
    have a := tk_mul 0 y
    have b := tk_mul 1 y
    have e0 : tk 0 y = 1 := rfl
    have ca : ((0 : Nat) : Rat) = 0 := rfl
    have cb : ((1 : Nat) : Rat) = 1 := rfl
    rw [ca, e0] at a
    rw [cb] at b
    grind
  have r4 : tk 4 y = tk 2 y * (y * y) / 12 := by
    have a := tk_mul 2 y
    have b := tk_mul 3 y
    have ca : ((2 : Nat) : Rat) = 2 := rfl
    have cb : ((3 : Nat) : Rat) = 3 := rfl
    rw [ca] at a
    rw [cb] at b
    have e : 12 * tk 4 y = tk 2 y * (y * y) := by grind
    grind
  have r6 : tk 6 y = tk 4 y * (y * y) / 30 := by
    have a := tk_mul 4 y
    have b := tk_mul 5 y
    have ca : ((4 : Nat) : Rat) = 4 := rfl
    have cb : ((5 : Nat) : Rat) = 5 := rfl
    rw [ca] at a
    rw [cb] at b
    have e : 30 * tk 6 y = tk 4 y * (y * y) := by grind
    grind
  have r8 : tk 8 y = tk 6 y * (y * y) / 56 := by
    have a := tk_mul 6 y
    have b := tk_mul 7 y
    have ca : ((6 : Nat) : Rat) = 6 := rfl
    have cb : ((7 : Nat) : Rat) = 7 := rfl
    rw [ca] at a
    rw [cb] at b
    have e : 56 * tk 8 y = tk 6 y * (y * y) := by grind
    grind
  have r10 : tk 10 y = tk 8 y * (y * y) / 90 := by
    have a := tk_mul 8 y
    have b := tk_mul 9 y
    have ca : ((8 : Nat) : Rat) = 8 := rfl
    have cb : ((9 : Nat) : Rat) = 9 := rfl
    rw [ca] at a
    rw [cb] at b
    have e : 90 * tk 10 y = tk 8 y * (y * y) := by grind
    grind
  have r12 : tk 12 y = tk 10 y * (y * y) / 132 := by
    have a := tk_mul 10 y
    have b := tk_mul 11 y
    have ca : ((10 : Nat) : Rat) = 10 := rfl
    have cb : ((11 : Nat) : Rat) = 11 := rfl
    rw [ca] at a
    rw [cb] at b
    have e : 132 * tk 12 y = tk 10 y * (y * y) := by grind
    grind
  have r14 : tk 14 y = tk 12 y * (y * y) / 182 := by
    have a := tk_mul 12 y
    have b := tk_mul 13 y
    have ca : ((12 : Nat) : Rat) = 12 := rfl
    have cb : ((13 : Nat) : Rat) = 13 := rfl
    rw [ca] at a
    rw [cb] at b
    have e : 182 * tk 14 y = tk 12 y * (y * y) := by grind
    grind
  have r16 : tk 16 y = tk 14 y * (y * y) / 240 := by
    have a := tk_mul 14 y
    have b := tk_mul 15 y
    have ca : ((14 : Nat) : Rat) = 14 := rfl
    have cb : ((15 : Nat) : Rat) = 15 := rfl
    rw [ca] at a
    rw [cb] at b
    have e : 240 * tk 16 y = tk 14 y * (y * y) := by grind
    grind
  have r18 : tk 18 y = tk 16 y * (y * y) / 306 := by
    have a := tk_mul 16 y
    have b := tk_mul 17 y
    have ca : ((16 : Nat) : Rat) = 16 := rfl
    have cb : ((17 : Nat) : Rat) = 17 := rfl
    rw [ca] at a
    rw [cb] at b
    have e : 306 * tk 18 y = tk 16 y * (y * y) := by grind
    grind
  unfold CF
  rw [r18, r16, r14, r12, r10, r8, r6, r4, r2, r0]
  unfold H1 H2 H3 H4 H5 H6 H7 H8 H9
  grind
theorem near_pair2 {a : Int} (h0 : 0 ≤ a) (h1 : a ≤ 16200000) (y θ : Rat) (θ0 : 0 ≤ θ) (θ1 : θ ≤ 1) (yn : 0 ≤ y) (hy : ((tlo a : Int) : Rat) = 1152921504606846976 * y - θ) :
    (-(4:Rat) + 1/100 ≤ 2 * (sine a : Rat) - 2147483648 * (y * G1 (y * y)) ∧ 2 * (sine a : Rat) - 2147483648 * (y * G1 (y * y)) ≤ 4 - 1/100) ∧
    (-(4:Rat) + 1/100 ≤ 2 * (cosine a : Rat) - 2147483648 * H1 (y * y) ∧ 2 * (cosine a : Rat) - 2147483648 * H1 (y * y) ≤ 4 - 1/100) := by
  have ⟨t0, t1⟩ := tq_b h0 h1
  have ⟨u0, u1⟩ := uq_b h0 h1
  obtain ⟨x, hx⟩ : ∃ x : Rat, ((uq a : Int) : Rat) = 2147483648 * x := ⟨((uq a : Int) : Rat) / 2147483648, by grind⟩
  have x0 : 0 ≤ x := by have := rle u0; rw [hx] at this; grind
  have x1 : x ≤ 617/1000 := by have := rle u1; rw [hx] at this; grind
  have ns := near_rs x0 x1 hx
  have nc := near_rc x0 x1 hx
  have ps := Ps_b x0 x1
  have mt := mul31_r (tq a) (tq a)
  have ms := mul31_r (tq a) (rs (uq a))
  have es : 2 * sine a ≤ mul31 (tq a) (rs (uq a)) + 1 ∧ mul31 (tq a) (rs (uq a)) ≤ 2 * sine a := by unfold sine; omega
  have ec : 2 * cosine a ≤ rc (uq a) + 1 ∧ rc (uq a) ≤ 2 * cosine a := by unfold cosine; omega
  have ⟨q1, q2⟩ := tq_lo h0 h1
  have tt := tt_a h0 h1
  have y0 := rle tt.t0
  have y1 := rle (show tlo a ≤ 906196302621781764 from Int.le_trans tt.le tt.top)
  have q1 := rle q1
  have q2 := rle q2
  have s1 := rle es.1
  have s2 := rle es.2
  have c1 := rle ec.1
  have c2 := rle ec.2
  have T0 := rle t0
  have T1 := rle t1
  have hu : ((mul31 (tq a) (tq a) : Int) : Rat) = 2147483648 * x := hx
  simp only [Rat.intCast_mul, Rat.intCast_add, Rat.intCast_sub, Rat.intCast_neg, Rat.intCast_ofNat, hy] at s1 s2 c1 c2 T0 T1 q1 q2 y0 y1
  rw [hu] at mt
  have y0 : 0 ≤ y := yn
  have y1 : y ≤ 7860/10000 := by grind
  have d1 : -(567/1000) ≤ (tq a : Rat) - 2147483648 * y := by grind
  have d2 : (tq a : Rat) - 2147483648 * y ≤ 501/1000 := by grind
  have ⟨a1, a2⟩ := ang T0 T1 (Y := 2147483648 * y) (by grind) d1 d2 mt.1 mt.2
  have z1 : -(7/10000000000) ≤ x - y * y := by grind
  have z2 : x - y * y ≤ 7/10000000000 := by grind
  have yy0 : 0 ≤ y * y := Rat.mul_nonneg y0 y0
  have yy1 : y * y ≤ 617/1000 ∨ 617/1000 < y * y := by grind
  have yy1 : y * y ≤ 617/1000 := by
    have y2 : y ≤ 78546/100000 := by grind
    have := Rat.mul_nonneg (a := 78546/100000 - y) (b := 78546/100000 + y) (by grind) (by grind)
    grind
  have g := Ps_G x0 x1 yy0 yy1 (δ := 7/10000000000) (by grind) z1 z2
  have h := Pc_H x0 x1 yy0 yy1 (δ := 7/10000000000) (by grind) z1 z2
  obtain ⟨ns1, ns2⟩ := ns
  obtain ⟨nc1, nc2⟩ := nc
  generalize ((sine a : Int) : Rat) = s at *
  generalize ((cosine a : Int) : Rat) = c at *
  generalize ((mul31 (tq a) (rs (uq a)) : Int) : Rat) = m at *
  generalize ((rs (uq a) : Int) : Rat) = R at *
  generalize ((rc (uq a) : Int) : Rat) = C at *
  generalize ((tq a : Int) : Rat) = T at *
  have ⟨al1, al2⟩ := sine_near T0 T1 ns1 ns2 ms.1 ms.2 s1 s2
  generalize Ps x = p at *
  generalize Pc x = q at *
  generalize G1 (y * y) = G at *
  generalize H1 (y * y) = H at *
  clear ns1 ns2 ms s1 s2 hu hx mt
  refine ⟨?_, ?_⟩
  · obtain ⟨g1, g2, g3, g4⟩ := g
    have ⟨k1, k2⟩ := ab_b (A := p) (M := 1) (by grind) ps.2 d1 d2 (by grind) (by grind)
    have ⟨l1, l2⟩ := ab_b (A := y) (M := 1) y0 (by grind) g1 g2 (by grind) (by grind)
    have e : T * p - 2147483648 * (y * G) = p * (T - 2147483648 * y) + 2147483648 * (y * (p - G)) := by grind
    generalize p * (T - 2147483648 * y) = K at *
    generalize y * (p - G) = L at *
    generalize T * p = A at *
    generalize y * G = B at *
    constructor <;> grind
  · obtain ⟨g1, g2, g3, g4⟩ := h
    constructor <;> grind
def CC (a : Int) : Rat := (rp a.natAbs).1
def SS (a : Int) : Rat := if a < 0 then -(rp a.natAbs).2 else (rp a.natAbs).2
theorem CC_nat (n : Nat) : CC (n : Int) = (rp n).1 := rfl
theorem SS_nat (n : Nat) : SS (n : Int) = (rp n).2 := by unfold SS; rw [if_neg (by omega)]; rfl
theorem CC_neg (a : Int) : CC (-a) = CC a := by unfold CC; rw [Int.natAbs_neg]
theorem SS_neg (a : Int) : SS (-a) = -SS a := by
  unfold SS
  rw [Int.natAbs_neg]
  by_cases h : a < 0
  · rw [if_pos h, if_neg (by omega)]; grind
  · by_cases h0 : a = 0
    · subst h0; rw [if_neg (by omega), if_neg (by omega)]; decide
    · rw [if_neg h, if_pos (by omega)]
theorem CS_unit (a : Int) : CC a * CC a + SS a * SS a = 1 := by
  have h := rp_unit a.natAbs
  unfold CC SS
  split
  · grind
  · exact h
/-- differences. -/
theorem rp_sub (m n : Nat) (h : n ≤ m) : (rp (m - n)).1 = (rp m).1 * (rp n).1 + (rp m).2 * (rp n).2 ∧ (rp (m - n)).2 = (rp m).2 * (rp n).1 - (rp m).1 * (rp n).2 := by
  have ha := rp_add (m - n) n
  rw [show m - n + n = m by omega] at ha
  have hu := rp_unit n
  obtain ⟨h1, h2⟩ := ha
  rw [h1, h2]
  generalize (rp (m - n)).1 = P at *
  generalize (rp (m - n)).2 = Q at *
  generalize (rp n).1 = C at *
  generalize (rp n).2 = S at *
  constructor
  · have e : (P * C - Q * S) * C + (Q * C + P * S) * S = P * (C * C + S * S) := by grind
    rw [e, hu]; grind
  · have e : (Q * C + P * S) * C - (P * C - Q * S) * S = Q * (C * C + S * S) := by grind
    rw [e, hu]; grind
theorem add_nn (m n : Nat) : CC ((m : Int) + (n : Int)) = CC m * CC n - SS m * SS n ∧ SS ((m : Int) + (n : Int)) = SS m * CC n + CC m * SS n := by
  have h := rp_add m n
  rw [← Int.natCast_add]
  rw [CC_nat, CC_nat, CC_nat, SS_nat, SS_nat, SS_nat]
  exact h
theorem add_nm (m n : Nat) : CC ((m : Int) + -(n : Int)) = CC m * CC n + SS m * SS n ∧ SS ((m : Int) + -(n : Int)) = SS m * CC n - CC m * SS n := by
  rcases Nat.le_total n m with h | h
  · have hs := rp_sub m n h
    have e : (m : Int) + -(n : Int) = ((m - n : Nat) : Int) := by omega
    rw [e, CC_nat, CC_nat, CC_nat, SS_nat, SS_nat, SS_nat]
    exact hs
  · have hs := rp_sub n m h
    have e : (m : Int) + -(n : Int) = -((n - m : Nat) : Int) := by omega
    rw [e, CC_neg, SS_neg, CC_nat, CC_nat, CC_nat, SS_nat, SS_nat, SS_nat]
    obtain ⟨h1, h2⟩ := hs
    rw [h1, h2]
    constructor <;> grind
theorem CS_add (a b : Int) : CC (a + b) = CC a * CC b - SS a * SS b ∧ SS (a + b) = SS a * CC b + CC a * SS b := by
  rcases Int.eq_nat_or_neg a with ⟨m, rfl | rfl⟩ <;> rcases Int.eq_nat_or_neg b with ⟨n, rfl | rfl⟩
  · exact add_nn m n
  · have h := add_nm m n
    rw [CC_neg, SS_neg, h.1, h.2]
    constructor <;> grind
  · have h := add_nm n m
    rw [show -(m : Int) + (n : Int) = (n : Int) + -(m : Int) by omega, CC_neg, SS_neg, h.1, h.2]
    constructor <;> grind
  · have h := add_nn m n
    rw [show -(m : Int) + -(n : Int) = -((m : Int) + (n : Int)) by omega, CC_neg, SS_neg, CC_neg, SS_neg, CC_neg, SS_neg, h.1, h.2]
    constructor <;> grind
theorem CS_sub (a b : Int) : CC (a - b) = CC a * CC b + SS a * SS b ∧ SS (a - b) = SS a * CC b - CC a * SS b := by
  have h := CS_add a (-b)
  rw [CC_neg, SS_neg] at h
  rw [Int.sub_eq_add_neg, h.1, h.2]
  constructor <;> grind
/-- the program's sine and cosine are near, within e parts of 2^30. -/
def Nr (a : Int) (e : Rat) : Prop := (-e ≤ (sn a : Rat) - 1073741824 * SS a ∧ (sn a : Rat) - 1073741824 * SS a ≤ e) ∧ (-e ≤ (cn a : Rat) - 1073741824 * CC a ∧ (cn a : Rat) - 1073741824 * CC a ≤ e)
theorem uu_eq (n : Nat) : (74709313498523684044800000 : Rat) * ((n : Rat) * uu) = 3622009729038561421 * (n : Rat) := by
  have h : (74709313498523684044800000 : Rat) * uu = 3622009729038561421 := by unfold uu; decide +kernel
  grind
theorem nr_oct (n : Nat) (hn : n ≤ 16200000) : Nr (n : Int) (1995/1000 + 2/10000) := by
  have ⟨⟨c1, c2⟩, s1, s2⟩ := rp_near n hn
  have hk := kpos n
  have hN : (n : Rat) ≤ 16200000 := by
    have := rle (a := n) (b := 16200000) (by omega)
    rw [Rat.intCast_natCast] at this
    exact this
  have y0 : 0 ≤ (n : Rat) * uu := Rat.mul_nonneg hk (by have := uu_b; grind)
  have hu := uu_eq n
  have hd : 64800000 * tlo (n : Int) ≤ (n : Int) * 3622009729038561421 ∧ (n : Int) * 3622009729038561421 ≤ 64800000 * tlo (n : Int) + 64800000 := by unfold tlo; omega
  have d1 := rle hd.1
  have d2 := rle hd.2
  simp only [Rat.intCast_mul, Rat.intCast_add, Rat.intCast_ofNat, Rat.intCast_natCast] at d1 d2
  have np := near_pair2 (a := (n : Int)) (by omega) (by omega) ((n : Rat) * uu) (1152921504606846976 * ((n : Rat) * uu) - (tlo (n : Int) : Rat)) (by grind) (by grind) y0 (by grind)
  rw [← SF_G, ← CF_H] at np
  obtain ⟨⟨p1, p2⟩, p3, p4⟩ := np
  have hs : sn (n : Int) = sine (n : Int) := sn_es (by omega) (by omega)
  have hc : cn (n : Int) = cosine (n : Int) ∨ ((n : Int) = 16200000 ∧ cn (n : Int) = 759250125 ∧ cosine (n : Int) = 759250125) ∨ cn (n : Int) = cosine (n : Int) := by
    by_cases h : (n : Int) < 16200000
    · exact .inl (cn_e (by omega) h)
    · have e : (n : Int) = 16200000 := by omega
      refine .inr (.inl ⟨e, ?_, ?_⟩)
      · rw [e]; exact cn_E
      · rw [e]; decide +kernel
  have hc : cn (n : Int) = cosine (n : Int) := by
    rcases hc with h | ⟨_, h1, h2⟩ | h
    · exact h
    · rw [h1, h2]
    · exact h
  unfold Nr
  rw [hs, hc, SS_nat, CC_nat]
  generalize (rp n).1 = C at *
  generalize (rp n).2 = S at *
  generalize CF ((n : Rat) * uu) = F at *
  generalize SF ((n : Rat) * uu) = G at *
  generalize ((sine (n : Int) : Int) : Rat) = s at *
  generalize ((cosine (n : Int) : Int) : Rat) = c at *
  clear d1 d2 hd hu y0 hs hc
  generalize (n : Rat) = K at *
  refine ⟨⟨?_, ?_⟩, ?_, ?_⟩ <;> grind
theorem rsq (z : Rat) : 0 ≤ z * z := by
  rcases (Rat.le_total : 0 ≤ z ∨ z ≤ 0) with k | k
  · exact Rat.mul_nonneg k k
  · have := Rat.mul_nonneg (a := -z) (b := -z) (by grind) (by grind)
    grind
theorem CS_1 (a : Int) : (-1 ≤ CC a ∧ CC a ≤ 1) ∧ (-1 ≤ SS a ∧ SS a ≤ 1) := by
  have h := CS_unit a
  generalize CC a = C at *
  generalize SS a = S at *
  have c2 := rsq C
  have s2 := rsq S
  have lem : ∀ z : Rat, z * z ≤ 1 → -1 ≤ z ∧ z ≤ 1 := fun z hz => by
    constructor
    · refine Classical.byContradiction fun hc => ?_
      have := Rat.mul_pos (a := -1 - z) (b := -1 - z) (by grind) (by grind)
      grind
    · refine Classical.byContradiction fun hc => ?_
      have := Rat.mul_pos (a := z - 1) (b := z - 1) (by grind) (by grind)
      grind
  exact ⟨lem C (by grind), lem S (by grind)⟩
theorem num_E : -(1/1000000000000000) ≤ CF (16200000 * uu) - SF (16200000 * uu) ∧ CF (16200000 * uu) - SF (16200000 * uu) ≤ 1/1000000000000000 ∧ 7/10 ≤ SF (16200000 * uu) := by decide +kernel
theorem E_near : (-(325/1000000000000000) ≤ CC 16200000 - SS 16200000 ∧ CC 16200000 - SS 16200000 ≤ 325/1000000000000000) ∧ 1/2 ≤ SS 16200000 := by
  have ⟨⟨c1, c2⟩, s1, s2⟩ := rp_near 16200000 (by omega)
  have ⟨n1, n2, n3⟩ := num_E
  have e : ((16200000 : Nat) : Rat) = 16200000 := rfl
  rw [e] at c1 c2 s1 s2
  have h1 : CC 16200000 = (rp 16200000).1 := CC_nat 16200000
  have h2 : SS 16200000 = (rp 16200000).2 := SS_nat 16200000
  rw [h1, h2]
  generalize (rp 16200000).1 = C at *
  generalize (rp 16200000).2 = S at *
  generalize CF (16200000 * uu) = F at *
  generalize SF (16200000 * uu) = G at *
  refine ⟨⟨?_, ?_⟩, ?_⟩ <;> grind
theorem Q_near : (-(462/1000000000000000) ≤ CC 32400000 ∧ CC 32400000 ≤ 462/1000000000000000) ∧ 1 - 1/1000000000000000000000 ≤ SS 32400000 ∧ SS 32400000 ≤ 1 := by
  have ⟨⟨d1, d2⟩, s0⟩ := E_near
  have h := CS_add 16200000 16200000
  rw [show (16200000 : Int) + 16200000 = 32400000 from rfl] at h
  have hu := CS_unit 16200000
  have hv := CS_unit 32400000
  have h1 := (CS_1 32400000).2.2
  generalize CC 16200000 = C at *
  generalize SS 16200000 = S at *
  generalize CC 32400000 = X at *
  generalize SS 32400000 = Y at *
  obtain ⟨hx, hy⟩ := h
  have hsum : C + S ≤ 1415/1000 := by
    refine Classical.byContradiction fun hc => ?_
    have := Rat.mul_pos (a := C + S - 1415/1000) (b := C + S + 1415/1000) (by grind) (by grind)
    have h2 := rsq (C - S)
    grind
  have hsum0 : 0 ≤ C + S := by grind
  have k := mulab (a := C - S) (b := C + S) (A := 325/1000000000000000) (B := 1415/1000) d1 d2 (by grind) hsum
  have ex : X = (C - S) * (C + S) := by grind
  have x1 : -(462/1000000000000000) ≤ X ∧ X ≤ 462/1000000000000000 := by rw [ex]; constructor <;> grind
  have y0 : 0 ≤ Y := by
    have p := Rat.mul_nonneg (a := S) (b := C) (by grind) (by grind)
    grind
  refine ⟨x1, ?_, h1⟩
  have k2 := mulab (a := X) (b := X) (A := 462/1000000000000000) (B := 462/1000000000000000) x1.1 x1.2 x1.1 x1.2
  have k3 := Rat.mul_nonneg (a := Y) (b := 1 - Y) y0 (by grind)
  grind
theorem nr_neg {a : Int} {e : Rat} (h : Nr a e) : Nr (-a) e := by
  obtain ⟨⟨h1, h2⟩, h3, h4⟩ := h
  unfold Nr
  rw [sn_neg, cn_neg, SS_neg, CC_neg]
  simp only [Rat.intCast_neg]
  refine ⟨⟨?_, ?_⟩, h3, h4⟩ <;> grind
/-- a quarter further. -/
theorem quarter_on (a : Int) : (-(462/1000000000000000) - 1/1000000000000000000000 ≤ SS (a + 32400000) - CC a ∧ SS (a + 32400000) - CC a ≤ 462/1000000000000000 + 1/1000000000000000000000) ∧ (-(462/1000000000000000) - 1/1000000000000000000000 ≤ CC (a + 32400000) + SS a ∧ CC (a + 32400000) + SS a ≤ 462/1000000000000000 + 1/1000000000000000000000) := by
  have h := CS_add a 32400000
  have ⟨⟨x1, x2⟩, y1, y2⟩ := Q_near
  have ⟨⟨c1, c2⟩, s1, s2⟩ := CS_1 a
  rw [h.1, h.2]
  generalize CC 32400000 = X at *
  generalize SS 32400000 = Y at *
  generalize CC a = C at *
  generalize SS a = S at *
  have k1 := mulab (a := S) (b := X) (A := 1) (B := 462/1000000000000000) s1 s2 x1 x2
  have k2 := mulab (a := C) (b := 1 - Y) (A := 1) (B := 1/1000000000000000000000) c1 c2 (by grind) (by grind)
  have k3 := mulab (a := C) (b := X) (A := 1) (B := 462/1000000000000000) c1 c2 x1 x2
  have k4 := mulab (a := S) (b := 1 - Y) (A := 1) (B := 1/1000000000000000000000) s1 s2 (by grind) (by grind)
  refine ⟨⟨?_, ?_⟩, ?_, ?_⟩ <;> grind
theorem nr_quarter {a : Int} {e : Rat} (h : Nr a e) : Nr (a + 32400000) (e + 5/10000) := by
  obtain ⟨⟨h1, h2⟩, h3, h4⟩ := h
  have ⟨⟨q1, q2⟩, q3, q4⟩ := quarter_on a
  unfold Nr
  rw [sn_plus, cn_plus]
  simp only [Rat.intCast_neg]
  generalize SS (a + 32400000) = S' at *
  generalize CC (a + 32400000) = C' at *
  generalize CC a = C at *
  generalize SS a = S at *
  generalize ((sn a : Int) : Rat) = s at *
  generalize ((cn a : Int) : Rat) = c at *
  refine ⟨⟨?_, ?_⟩, ?_, ?_⟩ <;> grind
theorem nr_mono {a : Int} {e f : Rat} (h : Nr a e) (hf : e ≤ f) : Nr a f := by
  obtain ⟨⟨h1, h2⟩, h3, h4⟩ := h
  refine ⟨⟨?_, ?_⟩, ?_, ?_⟩ <;> grind
theorem nr_q {a : Int} (h0 : 0 ≤ a) (h1 : a ≤ 32400000) : Nr a (19957/10000) := by
  by_cases h : a ≤ 16200000
  · have := nr_oct a.toNat (by omega)
    rw [show ((a.toNat : Nat) : Int) = a by omega] at this
    exact nr_mono this (by grind)
  · have := nr_oct (32400000 - a).toNat (by omega)
    rw [show (((32400000 - a).toNat : Nat) : Int) = 32400000 - a by omega] at this
    have := nr_quarter (nr_neg this)
    rw [show -(32400000 - a) + 32400000 = a by omega] at this
    exact nr_mono this (by grind)
/-- over two turns to both sides, the program's sine and cosine are within 2 parts. -/
theorem nr_all {a : Int} (h0 : -259200000 ≤ a) (h1 : a ≤ 259200000) : Nr a 2 := by
  have pos : ∀ a : Int, 0 ≤ a → a ≤ 259200000 → Nr a 2 := fun a h0 h1 => by
    by_cases k1 : a ≤ 32400000
    · exact nr_mono (nr_q h0 k1) (by grind)
    by_cases k2 : a ≤ 64800000
    · have := nr_quarter (nr_q (a := a - 32400000) (by omega) (by omega))
      rw [show a - 32400000 + 32400000 = a by omega] at this
      exact nr_mono this (by grind)
    by_cases k3 : a ≤ 97200000
    · have := nr_quarter (nr_quarter (nr_q (a := a - 64800000) (by omega) (by omega)))
      rw [show a - 64800000 + 32400000 + 32400000 = a by omega] at this
      exact nr_mono this (by grind)
    by_cases k4 : a ≤ 129600000
    · have := nr_quarter (nr_quarter (nr_quarter (nr_q (a := a - 97200000) (by omega) (by omega))))
      rw [show a - 97200000 + 32400000 + 32400000 + 32400000 = a by omega] at this
      exact nr_mono this (by grind)
    by_cases k5 : a ≤ 162000000
    · have := nr_quarter (nr_quarter (nr_quarter (nr_quarter (nr_q (a := a - 129600000) (by omega) (by omega)))))
      rw [show a - 129600000 + 32400000 + 32400000 + 32400000 + 32400000 = a by omega] at this
      exact nr_mono this (by grind)
    by_cases k6 : a ≤ 194400000
    · have := nr_quarter (nr_quarter (nr_quarter (nr_quarter (nr_quarter (nr_q (a := a - 162000000) (by omega) (by omega))))))
      rw [show a - 162000000 + 32400000 + 32400000 + 32400000 + 32400000 + 32400000 = a by omega] at this
      exact nr_mono this (by grind)
    by_cases k7 : a ≤ 226800000
    · have := nr_quarter (nr_quarter (nr_quarter (nr_quarter (nr_quarter (nr_quarter (nr_q (a := a - 194400000) (by omega) (by omega)))))))
      rw [show a - 194400000 + 32400000 + 32400000 + 32400000 + 32400000 + 32400000 + 32400000 = a by omega] at this
      exact nr_mono this (by grind)
    · have := nr_quarter (nr_quarter (nr_quarter (nr_quarter (nr_quarter (nr_quarter (nr_quarter (nr_q (a := a - 226800000) (by omega) (by omega))))))))
      rw [show a - 226800000 + 32400000 + 32400000 + 32400000 + 32400000 + 32400000 + 32400000 + 32400000 = a by omega] at this
      exact nr_mono this (by grind)
  by_cases h : 0 ≤ a
  · exact pos a h h1
  · have := nr_neg (pos (-a) (by omega) (by omega))
    rw [Int.neg_neg] at this
    exact this
theorem CC_one : CC 1 = cu := by
  show (rp 1).1 = cu
  rw [show rp 1 = rp (0 + 1) from rfl, rp_s1]
  show 1 * cu - 0 * su = cu
  grind
theorem SS_one : SS 1 = su := by
  rw [show (1 : Int) = ((1 : Nat) : Int) from rfl, SS_nat, show rp 1 = rp (0 + 1) from rfl, rp_s2]
  show 0 * cu + 1 * su = su
  grind
theorem cu_lo : 1 - 2/1000000000000000 ≤ cu ∧ cu ≤ 1 := by unfold cu uu; decide +kernel
theorem su_k : 1073741824 * su ≤ 520565/10000 ∧ 520564/10000 ≤ 1073741824 * su := by unfold su uu; decide +kernel
theorem oct_lo {c : Int} (h0 : 0 ≤ c) (h1 : c ≤ 16200000) : 7/10 ≤ CC c ∧ 0 ≤ SS c := by
  have nr := nr_all (a := c) (by omega) (by omega)
  obtain ⟨⟨a1, a2⟩, a3, a4⟩ := nr
  have ⟨s0, s1, s2⟩ := sn_e h0 h1
  constructor
  · have := rle s2
    simp only [Rat.intCast_ofNat] at this
    grind
  · by_cases hc : c = 0
    · subst hc; decide +kernel
    · have hm := sn_mono (a := 1) (b := c) (by omega) (by omega) (by omega)
      have h1' : sn 1 = 52 := by decide +kernel
      rw [h1'] at hm
      have := rle hm
      simp only [Rat.intCast_ofNat] at this
      grind
/-- the search's angle: how far the direction lies beyond it. -/
theorem ata_dir {m n : Int} (hn : 0 ≤ n) (hmn : n ≤ m) : -(2 * ((m : Rat) + n)) ≤ 1073741824 * ((n : Rat) * CC (ata m n) - (m : Rat) * SS (ata m n)) ∧
    1073741824 * ((n : Rat) * CC (ata m n) - (m : Rat) * SS (ata m n)) ≤ 52057/1000 * ((m : Rat) * CC (ata m n) + (n : Rat) * SS (ata m n)) + 2001/1000 * ((m : Rat) + n) ∧ 7/10 * (m : Rat) ≤ (m : Rat) * CC (ata m n) + (n : Rat) * SS (ata m n) := by
  have hb := ata_b m n
  have hok := ata_ok (m := m) hn
  have hab : ata m n < 16200000 → cn (ata m n + 1) * n < sn (ata m n + 1) * m := fun h => ata_above (ata m n + 1) (by omega) (by omega)
  generalize ata m n = c at *
  have n0 : 0 ≤ (n : Rat) := by have := rle hn; simpa using this
  have m0 : (n : Rat) ≤ (m : Rat) := rle hmn
  have ⟨lo, hi⟩ := oct_lo hb.1 hb.2
  have ⟨⟨c1, c2⟩, s1, s2⟩ := CS_1 c
  have p1 := Rat.mul_nonneg (a := (m : Rat)) (b := CC c - 7/10) (by grind) (by grind)
  have p2 := Rat.mul_nonneg n0 hi
  have p3 := Rat.mul_nonneg (a := (m : Rat)) (b := 1 - CC c) (by grind) (by grind)
  have p4 := Rat.mul_nonneg n0 (b := 1 - SS c) (by grind)
  have p5 := Rat.mul_nonneg n0 (b := 1 - CC c) (by grind)
  have p6 := Rat.mul_nonneg (a := (m : Rat)) (b := SS c) (by grind) hi
  have p7 := Rat.mul_nonneg (a := (m : Rat)) (b := 1 - SS c) (by grind) (by grind)
  have p8 := Rat.mul_nonneg n0 (b := CC c) (by grind)
  refine ⟨?_, ?_, by grind⟩
  · obtain ⟨⟨a1, a2⟩, a3, a4⟩ := nr_all (a := c) (by omega) (by omega)
    have r := rle hok
    simp only [Rat.intCast_mul] at r
    have k1 := Rat.mul_nonneg n0 (b := 1073741824 * CC c - (cn c : Rat) + 2) (by grind)
    have k2 := Rat.mul_nonneg (a := (m : Rat)) (b := (sn c : Rat) + 2 - 1073741824 * SS c) (by grind) (by grind)
    generalize ((cn c : Int) : Rat) = X at *
    generalize ((sn c : Int) : Rat) = Y at *
    generalize (n : Rat) = N at *
    generalize (m : Rat) = M at *
    generalize CC c = C at *
    generalize SS c = S at *
    grind
  · by_cases hc : c < 16200000
    · obtain ⟨⟨a1, a2⟩, a3, a4⟩ := nr_all (a := c + 1) (by omega) (by omega)
      have r := rle (Int.le_of_lt (hab hc))
      simp only [Rat.intCast_mul] at r
      have k1 := Rat.mul_nonneg n0 (b := (cn (c + 1) : Rat) + 2 - 1073741824 * CC (c + 1)) (by grind)
      have k2 := Rat.mul_nonneg (a := (m : Rat)) (b := 1073741824 * SS (c + 1) - (sn (c + 1) : Rat) + 2) (by grind) (by grind)
      have ha := CS_add c 1
      rw [CC_one, SS_one] at ha
      rw [ha.1] at k1
      rw [ha.2] at k2
      have ⟨w0, w1⟩ := cu_lo
      have ⟨v0, v1⟩ := su_k
      have k3 := Rat.mul_nonneg (a := (m : Rat) * CC c + (n : Rat) * SS c) (b := 520565/10000 - 1073741824 * su) (by grind) (by grind)
      have k4 := mulab (a := (n : Rat) * CC c - (m : Rat) * SS c) (b := 1 - cu) (A := (m : Rat) + n) (B := 2/1000000000000000) (by grind) (by grind) (by grind) (by grind)
      have hP : 0 ≤ (m : Rat) * CC c + (n : Rat) * SS c := by grind
      clear ha hab hok a1 a2 a3 a4 v0 v1 p1 p2 p3 p4 p5 p6 w0 w1
      generalize ((cn (c + 1) : Int) : Rat) = X at *
      generalize ((sn (c + 1) : Int) : Rat) = Y at *
      generalize (n : Rat) = N at *
      generalize (m : Rat) = M at *
      generalize CC c = C at *
      generalize SS c = S at *
      have E1 : 1073741824 * (N * C - M * S) = 1073741824 * ((N * C - M * S) * (1 - cu)) + 1073741824 * (cu * (N * C - M * S) - su * (M * C + N * S)) + (M * C + N * S) * (1073741824 * su) := by grind
      have E2 : 1073741824 * (cu * (N * C - M * S) - su * (M * C + N * S)) = N * (1073741824 * (C * cu - S * su)) - M * (1073741824 * (S * cu + C * su)) := by grind
      have B2 : 1073741824 * (cu * (N * C - M * S) - su * (M * C + N * S)) ≤ 2 * (M + N) := by rw [E2]; grind
      rw [E1]
      generalize cu * (N * C - M * S) - su * (M * C + N * S) = T1 at *
      generalize (N * C - M * S) * (1 - cu) = T2 at *
      have E3 : (M * C + N * S) * (1073741824 * su) = 520565/10000 * (M * C + N * S) - (M * C + N * S) * (520565/10000 - 1073741824 * su) := by grind
      rw [E3]
      generalize (M * C + N * S) * (520565/10000 - 1073741824 * su) = T3 at *
      generalize M * C + N * S = P0 at *
      clear E1 E2 E3 k1 k2 r p7 p8
      grind
    · have e : c = 16200000 := by omega
      have hE : (-(325/1000000000000000) ≤ CC c - SS c ∧ CC c - SS c ≤ 325/1000000000000000) ∧ 1/2 ≤ SS c := by rw [e]; exact E_near
      clear e hc hok hab
      generalize (n : Rat) = N at *
      generalize (m : Rat) = M at *
      generalize CC c = C at *
      generalize SS c = S at *
      obtain ⟨⟨d1, d2⟩, s0⟩ := hE
      have k1 := Rat.mul_nonneg (a := M - N) (b := C) (by grind) (by grind)
      have k2 := Rat.mul_nonneg (a := M) (b := 325/1000000000000000 - (C - S)) (by grind) (by grind)
      have hP : 0 ≤ M * C + N * S := by grind
      have k3 : N * C - M * S ≤ 325/1000000000000000 * M := by grind
      generalize M * C + N * S = P0 at *
      generalize N * C - M * S = Q0 at *
      clear p3 p4 p5 p6 p1 p2 p7 p8 k1 k2
      grind
/-- near a direction: q across, p along, L the sum of the sizes. -/
def Dr (k a b : Rat) (p q L : Rat) : Prop := (-(a * p + b * L) ≤ 1073741824 * q ∧ 1073741824 * q ≤ a * p + b * L) ∧ k * L ≤ p
theorem iabs_le (x : Int) : (0 : Rat) ≤ (iabs x : Rat) := by have := rle (iabs_nn x); simpa using this
theorem atq_dir (y x : Int) : Dr (3/10) (52058/1000) (2002/1000) ((iabs x : Rat) * CC (atq y x) + (iabs y : Rat) * SS (atq y x)) ((iabs y : Rat) * CC (atq y x) - (iabs x : Rat) * SS (atq y x)) ((iabs x : Rat) + iabs y) := by
  have x0 := iabs_le x
  have y0 := iabs_le y
  by_cases h : iabs x < iabs y
  · have e : atq y x = 32400000 - ata (iabs y) (iabs x) := by
      unfold atq
      rw [if_pos h, show max (iabs x) (iabs y) = iabs y by omega, show min (iabs x) (iabs y) = iabs x by omega]
    have hd := ata_dir (m := iabs y) (n := iabs x) (iabs_nn x) (by omega)
    have hxy := rle (Int.le_of_lt h)
    rw [e]
    have hs := CS_sub 32400000 (ata (iabs y) (iabs x))
    rw [hs.1, hs.2]
    have ⟨⟨q1, q2⟩, q3, q4⟩ := Q_near
    have ⟨⟨c1, c2⟩, s1, s2⟩ := CS_1 (ata (iabs y) (iabs x))
    clear hs e h
    generalize CC 32400000 = U at *
    generalize SS 32400000 = V at *
    generalize CC (ata (iabs y) (iabs x)) = C at *
    generalize SS (ata (iabs y) (iabs x)) = S at *
    generalize ((iabs x : Int) : Rat) = X at *
    generalize ((iabs y : Int) : Rat) = Y at *
    obtain ⟨d1, d2, d3⟩ := hd
    have k1 := Rat.mul_nonneg x0 (b := 1 - C) (by grind)
    have k2 := Rat.mul_nonneg x0 (b := 1 + C) (by grind)
    have k3 := Rat.mul_nonneg x0 (b := 1 - S) (by grind)
    have k4 := Rat.mul_nonneg x0 (b := 1 + S) (by grind)
    have k5 := Rat.mul_nonneg y0 (b := 1 - C) (by grind)
    have k6 := Rat.mul_nonneg y0 (b := 1 + C) (by grind)
    have k7 := Rat.mul_nonneg y0 (b := 1 - S) (by grind)
    have k8 := Rat.mul_nonneg y0 (b := 1 + S) (by grind)
    have a1 := mulab (a := X * C - Y * S) (b := U) (A := X + Y) (B := 462/1000000000000000) (by grind) (by grind) q1 q2
    have a2 := mulab (a := Y * C + X * S) (b := U) (A := X + Y) (B := 462/1000000000000000) (by grind) (by grind) q1 q2
    have a3 := mulab (a := X * C - Y * S) (b := 1 - V) (A := X + Y) (B := 1/1000000000000000000000) (by grind) (by grind) (by grind) (by grind)
    have a4 := mulab (a := Y * C + X * S) (b := 1 - V) (A := X + Y) (B := 1/1000000000000000000000) (by grind) (by grind) (by grind) (by grind)
    have e1 : X * (U * C + V * S) + Y * (V * C - U * S) = (Y * C + X * S) - (Y * C + X * S) * (1 - V) + (X * C - Y * S) * U := by grind
    have e2 : Y * (U * C + V * S) - X * (V * C - U * S) = -(X * C - Y * S) + (X * C - Y * S) * (1 - V) + (Y * C + X * S) * U := by grind
    rw [e1, e2]
    clear e1 e2 k1 k2 k3 k4 k5 k6 k7 k8 c1 c2 s1 s2 q1 q2 q3 q4
    generalize (X * C - Y * S) * U = T1 at *
    generalize (Y * C + X * S) * U = T2 at *
    generalize (X * C - Y * S) * (1 - V) = T3 at *
    generalize (Y * C + X * S) * (1 - V) = T4 at *
    generalize X * C - Y * S = q0 at *
    generalize Y * C + X * S = p0 at *
    unfold Dr
    refine ⟨⟨?_, ?_⟩, ?_⟩ <;> grind
  · have e : atq y x = ata (iabs x) (iabs y) := by
      unfold atq
      rw [if_neg h, show max (iabs x) (iabs y) = iabs x by omega, show min (iabs x) (iabs y) = iabs y by omega]
    have hd := ata_dir (m := iabs x) (n := iabs y) (iabs_nn y) (by omega)
    have hxy := rle (show iabs y ≤ iabs x by omega)
    rw [e]
    obtain ⟨d1, d2, d3⟩ := hd
    clear e h
    generalize CC (ata (iabs x) (iabs y)) = C at *
    generalize SS (ata (iabs x) (iabs y)) = S at *
    generalize ((iabs x : Int) : Rat) = X at *
    generalize ((iabs y : Int) : Rat) = Y at *
    generalize X * C + Y * S = p0 at *
    generalize Y * C - X * S = q0 at *
    unfold Dr
    refine ⟨⟨?_, ?_⟩, ?_⟩ <;> grind
theorem half_near : (-1 ≤ CC 64800000 ∧ CC 64800000 ≤ -1 + 1/1000000000000) ∧ (-(1/1000000000000) ≤ SS 64800000 ∧ SS 64800000 ≤ 1/1000000000000) := by
  have ⟨⟨a1, a2⟩, a3, a4⟩ := quarter_on 32400000
  rw [show (32400000 : Int) + 32400000 = 64800000 from rfl] at a1 a2 a3 a4
  have ⟨⟨q1, q2⟩, q3, q4⟩ := Q_near
  have h1 := CS_1 64800000
  generalize CC 64800000 = U at *
  generalize SS 64800000 = V at *
  generalize CC 32400000 = C at *
  generalize SS 32400000 = S at *
  refine ⟨⟨?_, ?_⟩, ?_, ?_⟩ <;> grind
theorem turn_near : (1 - 3/1000000000000 ≤ CC 129600000 ∧ CC 129600000 ≤ 1) ∧ (-(3/1000000000000) ≤ SS 129600000 ∧ SS 129600000 ≤ 3/1000000000000) := by
  have ⟨⟨a1, a2⟩, a3, a4⟩ := quarter_on 64800000
  have ⟨⟨b1, b2⟩, b3, b4⟩ := quarter_on 97200000
  rw [show (64800000 : Int) + 32400000 = 97200000 from rfl] at a1 a2 a3 a4
  rw [show (97200000 : Int) + 32400000 = 129600000 from rfl] at b1 b2 b3 b4
  have ⟨⟨q1, q2⟩, q3, q4⟩ := half_near
  have h1 := CS_1 129600000
  generalize CC 129600000 = U at *
  generalize SS 129600000 = V at *
  generalize CC 97200000 = C at *
  generalize SS 97200000 = S at *
  generalize CC 64800000 = C1 at *
  generalize SS 64800000 = S1 at *
  refine ⟨⟨?_, ?_⟩, ?_, ?_⟩ <;> grind
/-- the same direction up to a tiny turn. -/
theorem dr_turn {X Y C S U V : Rat} {κ : Rat} (hκ : κ = 1 ∨ κ = -1) (x0 : 0 ≤ X) (y0 : 0 ≤ Y) (c1 : -1 ≤ C) (c2 : C ≤ 1) (s1 : -1 ≤ S) (s2 : S ≤ 1) (u1 : -(3/1000000000000) ≤ U - κ) (u2 : U - κ ≤ 3/1000000000000) (v1 : -(3/1000000000000) ≤ V) (v2 : V ≤ 3/1000000000000)
    (h : Dr (3/10) (52058/1000) (2002/1000) (X * C + Y * S) (Y * C - X * S) (X + Y)) {p q : Rat} (hp : p = κ * (U * (X * C + Y * S) + V * (Y * C - X * S)) ∨ p = κ * (U * (X * C + Y * S) - V * (Y * C - X * S)))
    (hq : q = κ * (U * (Y * C - X * S) - V * (X * C + Y * S)) ∨ q = -κ * (U * (Y * C - X * S) - V * (X * C + Y * S)) ∨ q = κ * (U * (Y * C - X * S) + V * (X * C + Y * S)) ∨ q = -κ * (U * (Y * C - X * S) + V * (X * C + Y * S))) : Dr (29/100) (5206/100) (201/100) p q (X + Y) := by
  have k1 := Rat.mul_nonneg x0 (b := 1 - C) (by grind)
  have k2 := Rat.mul_nonneg x0 (b := 1 + C) (by grind)
  have k3 := Rat.mul_nonneg x0 (b := 1 - S) (by grind)
  have k4 := Rat.mul_nonneg x0 (b := 1 + S) (by grind)
  have k5 := Rat.mul_nonneg y0 (b := 1 - C) (by grind)
  have k6 := Rat.mul_nonneg y0 (b := 1 + C) (by grind)
  have k7 := Rat.mul_nonneg y0 (b := 1 - S) (by grind)
  have k8 := Rat.mul_nonneg y0 (b := 1 + S) (by grind)
  have b1 : -(X + Y) ≤ X * C + Y * S ∧ X * C + Y * S ≤ X + Y := by constructor <;> grind
  have b2 : -(X + Y) ≤ Y * C - X * S ∧ Y * C - X * S ≤ X + Y := by constructor <;> grind
  have a1 := mulab (a := X * C + Y * S) (b := U - κ) (A := X + Y) (B := 3/1000000000000) b1.1 b1.2 u1 u2
  have a2 := mulab (a := Y * C - X * S) (b := U - κ) (A := X + Y) (B := 3/1000000000000) b2.1 b2.2 u1 u2
  have a3 := mulab (a := X * C + Y * S) (b := V) (A := X + Y) (B := 3/1000000000000) b1.1 b1.2 v1 v2
  have a4 := mulab (a := Y * C - X * S) (b := V) (A := X + Y) (B := 3/1000000000000) b2.1 b2.2 v1 v2
  clear k1 k2 k3 k4 k5 k6 k7 k8 b1 b2
  obtain ⟨⟨d1, d2⟩, d3⟩ := h
  generalize X * C + Y * S = P at *
  generalize Y * C - X * S = Q at *
  have L0 : 0 ≤ X + Y := by grind
  generalize X + Y = L at *
  have e1 : U * P = κ * P + P * (U - κ) := by grind
  have e2 : U * Q = κ * Q + Q * (U - κ) := by grind
  rw [e1] at hp
  rw [e2] at hq
  have e3 : V * P = P * V := by grind
  have e4 : V * Q = Q * V := by grind
  rw [e3] at hq
  rw [e4] at hp
  generalize P * (U - κ) = T1 at *
  generalize Q * (U - κ) = T2 at *
  generalize P * V = T3 at *
  generalize Q * V = T4 at *
  clear e1 e2 e3 e4 u1 u2 v1 v2
  have pp : 1073741824 * p ≤ 1073741824 * P + 1073741824 * (6/1000000000000 * L) ∧ 1073741824 * P ≤ 1073741824 * p + 1073741824 * (6/1000000000000 * L) := by
    rcases hκ with rfl | rfl <;> rcases hp with rfl | rfl <;> constructor <;> grind
  have qq : (1073741824 * q ≤ 1073741824 * Q + 1073741824 * (6/1000000000000 * L) ∧ 1073741824 * Q ≤ 1073741824 * q + 1073741824 * (6/1000000000000 * L)) ∨ (-(1073741824 * q) ≤ 1073741824 * Q + 1073741824 * (6/1000000000000 * L) ∧ 1073741824 * Q ≤ -(1073741824 * q) + 1073741824 * (6/1000000000000 * L)) := by
    rcases hκ with rfl | rfl <;> rcases hq with rfl | rfl | rfl | rfl
    all_goals first
      | (left; constructor <;> grind)
      | (right; constructor <;> grind)
  clear hp hq a1 a2 a3 a4 hκ
  unfold Dr
  rcases qq with ⟨w1, w2⟩ | ⟨w1, w2⟩ <;> (refine ⟨⟨?_, ?_⟩, ?_⟩ <;> grind)
theorem rneg (x : Int) : ((-x : Int) : Rat) = -(x : Rat) := by simp only [Rat.intCast_neg]
/-- the arc tangent's answer: the direction lies within 52.06 + of it. -/
theorem at2_dir (y x : Int) : Dr (29/100) (5206/100) (201/100) ((x : Rat) * CC (at2 y x) + (y : Rat) * SS (at2 y x)) ((y : Rat) * CC (at2 y x) - (x : Rat) * SS (at2 y x)) ((iabs x : Rat) + iabs y) := by
  have h := atq_dir y x
  have hb := atq_b y x
  have x0 := iabs_le x
  have y0 := iabs_le y
  have ⟨⟨c1, c2⟩, s1, s2⟩ := CS_1 (atq y x)
  have ⟨⟨u1, u2⟩, v1, v2⟩ := half_near
  have ⟨⟨u3, u4⟩, v3, v4⟩ := turn_near
  by_cases hx : 0 ≤ x
  · have ex : (x : Rat) = (iabs x : Rat) := by unfold iabs; rw [if_neg (by omega)]
    by_cases hy : 0 ≤ y
    · have ey : (y : Rat) = (iabs y : Rat) := by unfold iabs; rw [if_neg (by omega)]
      have et : at2 y x = atq y x := by unfold at2; rw [if_pos ⟨hx, hy⟩]
      rw [et, ex, ey]
      exact dr_turn (κ := 1) (U := 1) (V := 0) (.inl rfl) x0 y0 c1 c2 s1 s2 (by decide +kernel) (by decide +kernel) (by decide +kernel) (by decide +kernel) h (.inl (by grind)) (.inl (by grind))
    · have ey : (y : Rat) = -(iabs y : Rat) := by rw [← rneg]; congr 1; unfold iabs; rw [if_pos (by omega)]; omega
      have et : at2 y x = (- atq y x) % 129600000 := by unfold at2; rw [if_neg (by omega), if_neg hy, if_neg (by omega)]
      by_cases hr : atq y x = 0
      · rw [et, hr, ex, ey]
        rw [hr] at h c1 c2 s1 s2
        have e0 : (-(0 : Int)) % 129600000 = 0 := by decide
        rw [e0]
        have hS : SS 0 = 0 := by decide +kernel
        exact dr_turn (κ := 1) (U := 1) (V := 0) (.inl rfl) x0 y0 c1 c2 s1 s2 (by decide +kernel) (by decide +kernel) (by decide +kernel) (by decide +kernel) h (.inl (by rw [hS]; grind)) (.inr (.inl (by rw [hS]; grind)))
      · have em : (- atq y x) % 129600000 = 129600000 - atq y x := by omega
        have hs := CS_sub 129600000 (atq y x)
        generalize CC 129600000 = U at *
        generalize SS 129600000 = V at *
        rw [et, em, hs.1, hs.2, ex, ey]
        exact dr_turn (κ := 1) (U := U) (V := V) (.inl rfl) x0 y0 c1 c2 s1 s2 (by grind) (by grind) v3 v4 h (.inr (by grind)) (.inr (.inr (.inr (by grind))))
  · have ex : (x : Rat) = -(iabs x : Rat) := by rw [← rneg]; congr 1; unfold iabs; rw [if_pos (by omega)]; omega
    by_cases hy : 0 ≤ y
    · have ey : (y : Rat) = (iabs y : Rat) := by unfold iabs; rw [if_neg (by omega)]
      have et : at2 y x = 64800000 - atq y x := by unfold at2; rw [if_neg (by omega), if_pos hy]
      have hs := CS_sub 64800000 (atq y x)
      generalize CC 64800000 = U at *
      generalize SS 64800000 = V at *
      rw [et, hs.1, hs.2, ex, ey]
      exact dr_turn (κ := -1) (U := U) (V := V) (.inr rfl) x0 y0 c1 c2 s1 s2 (by grind) (by grind) (by grind) (by grind) h (.inr (by grind)) (.inr (.inr (.inr (by grind))))
    · have ey : (y : Rat) = -(iabs y : Rat) := by rw [← rneg]; congr 1; unfold iabs; rw [if_pos (by omega)]; omega
      have et : at2 y x = 64800000 + atq y x := by unfold at2; rw [if_neg (by omega), if_neg hy, if_pos (by omega)]
      have hs := CS_add 64800000 (atq y x)
      generalize CC 64800000 = U at *
      generalize SS 64800000 = V at *
      rw [et, hs.1, hs.2, ex, ey]
      exact dr_turn (κ := -1) (U := U) (V := V) (.inr rfl) x0 y0 c1 c2 s1 s2 (by grind) (by grind) (by grind) (by grind) h (.inl (by grind)) (.inl (by grind))
end Fdk
