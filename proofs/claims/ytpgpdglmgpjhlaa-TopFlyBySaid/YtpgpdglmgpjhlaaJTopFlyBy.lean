/- Rays and crossings near exact directions: the plain half of a fly-by turn. The sizes of offsets, and the crossing of a fly-by turn's points. The walk of TopFlyBy, over its plain law. The plain law of a fly-by turn. The plain law of a fly-by turn: its ends. The plain law of a fly-by turn: Fly gives FlyLaw. The plain law of a fly-by turn: the points of its arc. The plain law of a fly-by turn: Fly gives FlyLaw. The walk of TopFlyBy. The arguments of a bend: opened and shut. No condition. -/
import Derived.Test.YtpgpdglmgpjhlaaRotP
import Derived.Test.YtpgpdglmgpjhlaaFbyB
import Derived.Test.YtpgpdglmgpjhlaaFbyC
import Derived.Test.YtpgpdglmgpjhlaaSphA
import Derived.ProofKit
import Derived.OpenShut
import Derived.Deep.Strs
import Derived.Lib.SmallJoins
namespace Go.Proofs.Ytpgpdglmgpjhlaa
open Go.RowKit Go.Joins Fdk
set_option linter.unusedVariables false
theorem fy_qn (p : Int) : -1073741824 ≤ 2 * (1073741824 * qnear p 1073741824) - 2 * p ∧ 2 * (1073741824 * qnear p 1073741824) - 2 * p ≤ 1073741824 := by
  unfold qnear
  omega
theorem fy_of {x y g r p q : Int} (h : rayv x y g r = (p, q, 0)) : pvd x y = true ∧ pvd p q = true ∧ p = x + qnear (r * sn g) 1073741824 ∧ q = y + qnear (r * cn g) 1073741824 := by
  unfold rayv at h
  split at h
  · split at h
    · simp at h
    · split at h
      · rename_i h1 h2 h3
        simp only [Prod.mk.injEq] at h
        obtain ⟨rfl, rfl, _⟩ := h
        exact ⟨h1, h3, rfl, rfl⟩
      · simp at h
  · simp at h
/-- one coordinate of a ray. -/
theorem fy_rc {x r s p : Int} {S : Rat} (r0 : 0 ≤ r) (r1 : r ≤ 8000000) (hp : p = x + qnear (r * s) 1073741824) (h0 : -2 ≤ (s : Rat) - 1073741824 * S) (h1 : (s : Rat) - 1073741824 * S ≤ 2) :
    -(52/100) ≤ (p : Rat) - x - r * S ∧ (p : Rat) - x - r * S ≤ 52/100 := by
  have ⟨k0, k1⟩ := fy_qn (r * s)
  have c0 := rle k0
  have c1 := rle k1
  have r0' := rle r0
  have r1' := rle r1
  have ep : (p : Rat) = (x : Rat) + ((qnear (r * s) 1073741824 : Int) : Rat) := by rw [hp, Rat.intCast_add]
  rw [ep]
  simp only [Rat.intCast_sub, Rat.intCast_mul, Rat.intCast_neg] at c0 c1 r0' r1'
  have m := mulab (a := (r : Rat)) (b := (s : Rat) - 1073741824 * S) (A := 8000000) (B := 2) (by simp at r0' ⊢; grind) (by simpa using r1') h0 h1
  have e : (r : Rat) * ((s : Rat) - 1073741824 * S) = (r : Rat) * s - 1073741824 * (r * S) := by grind
  rw [e] at m
  generalize (r : Rat) * s = a at *
  generalize (r : Rat) * S = b at *
  generalize ((qnear (r * s) 1073741824 : Int) : Rat) = n at *
  clear ep e h0 h1 r0' r1' k0 k1 hp
  simp at c0 c1
  constructor <;> grind
theorem fy_ray {x y g r p q t : Int} (h : rayv x y g r = (p, q, 0)) (r0 : 0 ≤ r) (r1 : r ≤ 8000000) (hg : g = t % 129600000) (t0 : -259200000 ≤ t) (t1 : t ≤ 259200000) :
    (-(52/100) ≤ (p : Rat) - x - r * SS t ∧ (p : Rat) - x - r * SS t ≤ 52/100) ∧ (-(52/100) ≤ (q : Rat) - y - r * CC t ∧ (q : Rat) - y - r * CC t ≤ 52/100) := by
  obtain ⟨_, _, hp, hq⟩ := fy_of h
  rw [hg, sn_mod] at hp
  rw [hg, cn_mod] at hq
  obtain ⟨⟨a1, a2⟩, a3, a4⟩ := nr_all t0 t1
  exact ⟨fy_rc r0 r1 hp a1 a2, fy_rc r0 r1 hq a3 a4⟩
/-- across a line, of a direction. -/
theorem fy_dir (X Y : Rat) (x t : Int) : Y * SS (x + t) - X * CC (x + t) = (Y * CC x + X * SS x) * SS t - (X * CC x - Y * SS x) * CC t := by
  have ⟨e1, e2⟩ := CS_add x t
  rw [e1, e2]
  grind
/-- the lead is long enough. -/
theorem fy_lead2 {h r L : Int} (h0 : 0 ≤ h) (h1 : h ≤ 27000000) (r0 : 0 ≤ r) (r1 : r ≤ 8000000) (l0 : 0 ≤ L) (l1 : L ≤ 6000000) (hl : r * sn h ≤ L * cn h) : -(12/100) ≤ (L : Rat) * SS (2 * h) + r * CC (2 * h) - r := by
  obtain ⟨⟨a1, a2⟩, a3, a4⟩ := nr_all (a := h) (by omega) (by omega)
  have sn0 : 0 ≤ sn h := by have := sn_mono (a := 0) (b := h) (by omega) (by omega) (by omega); rw [sn_0] at this; exact this
  have s0 := rle sn0
  have c0 := rle hl
  have r0' := rle r0
  have r1' := rle r1
  have l0' := rle l0
  have l1' := rle l1
  simp only [Rat.intCast_mul] at c0
  have ⟨⟨u1, u2⟩, v1, v2⟩ := CS_1 h
  have un := CS_unit h
  have ⟨e1, e2⟩ := CS_add h h
  rw [show h + h = 2 * h by omega] at e1 e2
  rw [e1, e2]
  clear e1 e2 sn0 hl h0 h1 r0 r1 l0 l1
  simp at s0 r0' r1' l0' l1'
  have m1 := mulab (a := (L : Rat)) (b := (cn h : Rat) - 1073741824 * CC h) (A := 6000000) (B := 2) (by grind) l1' a3 a4
  have m2 := mulab (a := (r : Rat)) (b := (sn h : Rat) - 1073741824 * SS h) (A := 8000000) (B := 2) (by grind) r1' a1 a2
  have m3 := mulab (a := (L : Rat)) (b := CC h) (A := 6000000) (B := 1) (by grind) l1' u1 u2
  have m4 := mulab (a := (r : Rat)) (b := SS h) (A := 8000000) (B := 1) (by grind) r1' v1 v2
  generalize (sn h : Rat) = sh at *
  generalize (cn h : Rat) = ch at *
  generalize CC h = C at *
  generalize SS h = S at *
  generalize (L : Rat) = L at *
  generalize (r : Rat) = r at *
  have e : L * (S * C + C * S) + r * (C * C - S * S) - r = 2 * (S * (L * C - r * S)) := by
    have e2 : C * C = 1 - S * S := by grind
    rw [e2]
    grind
  rw [e]
  have t1 : -(27/1000) ≤ L * C - r * S := by
    have e1 : L * (ch - 1073741824 * C) = L * ch - 1073741824 * (L * C) := by grind
    have e2 : r * (sh - 1073741824 * S) = r * sh - 1073741824 * (r * S) := by grind
    rw [e1] at m1
    rw [e2] at m2
    grind
  have t2 : L * C - r * S ≤ 14000000 := by grind
  have s1 : -(2/1073741824) ≤ S := by grind
  clear e m1 m2 m3 m4 a1 a2 a3 a4 un c0
  generalize L * C - r * S = T at *
  have k := Rat.mul_nonneg (a := S + 2/1073741824) (b := T + 27/1000) (by grind) (by grind)
  grind
theorem fy_lead {D h r L : Int} (h0 : 0 ≤ h) (h1 : h ≤ 27000000) (hD : D = 2 * h ∨ D = 2 * h + 1) (r0 : 0 ≤ r) (r1 : r ≤ 8000000) (l0 : 0 ≤ L) (l1 : L ≤ 6000000) (hl : r * sn h ≤ L * cn h) : -(9/10) ≤ (L : Rat) * SS D + r * CC D - r := by
  have k := fy_lead2 h0 h1 r0 r1 l0 l1 hl
  rcases hD with rfl | rfl
  · grind
  have ⟨e1, e2⟩ := CS_add (2 * h) 1
  rw [e1, e2, CC_one, SS_one]
  have ⟨⟨u1, u2⟩, v1, v2⟩ := CS_1 (2 * h)
  have r0' := rle r0
  have r1' := rle r1
  have l0' := rle l0
  have l1' := rle l1
  simp at r0' r1' l0' l1'
  have ⟨q1, q2⟩ : 1 - 1/1000000000 ≤ cu ∧ cu ≤ 1 := by unfold cu uu; decide +kernel
  have ⟨q3, q4⟩ : 0 ≤ su ∧ su ≤ 5/100000000 := by unfold su uu; decide +kernel
  have m1 := mulab (a := (L : Rat)) (b := SS (2 * h)) (A := 6000000) (B := 1) (by grind) l1' v1 v2
  have m2 := mulab (a := (r : Rat)) (b := CC (2 * h)) (A := 8000000) (B := 1) (by grind) r1' u1 u2
  have m3 := mulab (a := (L : Rat)) (b := CC (2 * h)) (A := 6000000) (B := 1) (by grind) l1' u1 u2
  have m4 := mulab (a := (r : Rat)) (b := SS (2 * h)) (A := 8000000) (B := 1) (by grind) r1' v1 v2
  clear e1 e2 h0 h1 r0 r1 l0 l1 hl u1 u2 v1 v2
  generalize CC (2 * h) = C at *
  generalize SS (2 * h) = S at *
  generalize (L : Rat) = L at *
  generalize (r : Rat) = r at *
  have n1 := mulab (a := L * S + r * C) (b := cu - 1) (A := 14000000) (B := 1/1000000000) (by grind) (by grind) (by grind) (by grind)
  have n2 := mulab (a := L * C - r * S) (b := su) (A := 14000000) (B := 5/100000000) (by grind) (by grind) (by grind) (by grind)
  have e : L * (S * cu + C * su) + r * (C * cu - S * su) - r = (L * S + r * C - r) + (L * S + r * C) * (cu - 1) + (L * C - r * S) * su := by grind
  rw [e]
  generalize (L * S + r * C) * (cu - 1) = z1 at *
  generalize (L * C - r * S) * su = z2 at *
  grind
theorem fy_per (a k : Int) (hk : k = 0 ∨ k = 1 ∨ k = -1) : -(1/100000000000) ≤ SS (a + k * 129600000) - SS a ∧ SS (a + k * 129600000) - SS a ≤ 1/100000000000 := by
  have ⟨⟨u3, u4⟩, v3, v4⟩ := turn_near
  have ⟨⟨c1, c2⟩, s1, s2⟩ := CS_1 a
  have f1 := (CS_add a 129600000).2
  have f2 := (CS_sub a 129600000).2
  generalize CC 129600000 = U at *
  generalize SS 129600000 = V at *
  have m1 := mulab (a := SS a) (b := U - 1) (A := 1) (B := 3/1000000000000) s1 s2 (by grind) (by grind)
  have m2 := mulab (a := CC a) (b := V) (A := 1) (B := 3/1000000000000) c1 c2 v3 v4
  rcases hk with rfl | rfl | rfl
  · rw [show a + 0 * 129600000 = a by omega]
    constructor <;> grind
  · rw [show a + 1 * 129600000 = a + 129600000 by omega, f1]
    clear f1 f2
    constructor <;> grind
  · rw [show a + -1 * 129600000 = a - 129600000 by omega, f2]
    clear f1 f2
    constructor <;> grind
theorem fy_half (a : Int) : -(1/100000000000) ≤ SS (64800000 - a) - SS a ∧ SS (64800000 - a) - SS a ≤ 1/100000000000 := by
  have ⟨⟨u3, u4⟩, v3, v4⟩ := half_near
  have ⟨⟨c1, c2⟩, s1, s2⟩ := CS_1 a
  rw [(CS_sub 64800000 a).2]
  generalize CC 64800000 = U at *
  generalize SS 64800000 = V at *
  have m1 := mulab (a := SS a) (b := U + 1) (A := 1) (B := 1/1000000000000) s1 s2 (by grind) (by grind)
  have m2 := mulab (a := CC a) (b := V) (A := 1) (B := 1/1000000000000) c1 c2 v3 v4
  constructor <;> grind
theorem fy_halfn (a : Int) : -(1/100000000000) ≤ SS (64800000 + a) + SS a ∧ SS (64800000 + a) + SS a ≤ 1/100000000000 := by
  have h := fy_half (-a)
  rw [SS_neg, show 64800000 - -a = 64800000 + a by omega] at h
  constructor <;> grind
theorem fy_q (a : Int) : -(1/100000000000) ≤ SS (32400000 - a) - CC a ∧ SS (32400000 - a) - CC a ≤ 1/100000000000 := by
  have ⟨⟨u3, u4⟩, v3, v4⟩ := Q_near
  have ⟨⟨c1, c2⟩, s1, s2⟩ := CS_1 a
  rw [(CS_sub 32400000 a).2]
  generalize CC 32400000 = U at *
  generalize SS 32400000 = V at *
  have m1 := mulab (a := CC a) (b := V - 1) (A := 1) (B := 1/1000000000000000000000) c1 c2 (by grind) (by grind)
  have m2 := mulab (a := SS a) (b := U) (A := 1) (B := 462/1000000000000000) s1 s2 u3 u4
  constructor <;> grind
theorem fy_low {p e A B n l : Rat} (p0 : 0 ≤ p) (p1 : p ≤ l) (e0 : -(5206/100 * p + 201/100 * l) ≤ 1073741824 * e) (e1 : 1073741824 * e ≤ 5206/100 * p + 201/100 * l) (a0 : -1 ≤ A) (b0 : -22000000 ≤ B) (b1 : B ≤ 22000000) (n0 : -(156/100 * l) ≤ n) : -(4 * l) ≤ p * A - e * B + n := by
  have k := Rat.mul_nonneg (a := p) (b := A + 1) p0 (by grind)
  have m := mulab (a := 1073741824 * e) (b := B) (A := 5407/100 * l) (B := 22000000) (by grind) (by grind) b0 b1
  have ee : p * A - e * B + n = p * (A + 1) - p - (1073741824 * e * B) / 1073741824 + n := by grind
  rw [ee]
  generalize 1073741824 * e * B = z at *
  generalize p * (A + 1) = y at *
  grind
theorem fy_noise (X Y : Int) {x y c : Rat} (h0 : -c ≤ x) (h1 : x ≤ c) (h2 : -c ≤ y) (h3 : y ≤ c) : -(c * ((iabs Y : Rat) + iabs X)) ≤ (Y : Rat) * x - X * y ∧ (Y : Rat) * x - X * y ≤ c * ((iabs Y : Rat) + iabs X) := by
  have g : ∀ (X : Int) (x : Rat), -c ≤ x → x ≤ c → -(c * (iabs X : Rat)) ≤ (X : Rat) * x ∧ (X : Rat) * x ≤ c * (iabs X : Rat) := by
    intro X x h0 h1
    have i0 := iabs_le X
    have e : (X : Rat) = (iabs X : Rat) ∨ (X : Rat) = -(iabs X : Rat) := by
      by_cases h : X < 0
      · right
        rw [← rneg]
        congr 1
        unfold iabs
        rw [if_pos h]
        omega
      · left
        unfold iabs
        rw [if_neg h]
    have k1 := Rat.mul_nonneg (a := (iabs X : Rat)) (b := c - x) i0 (by grind)
    have k2 := Rat.mul_nonneg (a := (iabs X : Rat)) (b := c + x) i0 (by grind)
    rcases e with e | e <;> rw [e] <;> constructor <;> grind
  have a := g Y x h0 h1
  have b := g X y h2 h3
  constructor <;> grind
open Go.RowKit Go.Joins Fdk
set_option linter.unusedVariables false
theorem isq_s2 (n : Int) : 0 ≤ isq n ∧ isq n ≤ 5000000000 := by
  unfold isq
  have h : grt (fun k => decide ((k : Int) * k ≤ n)) sN ≤ sN := grt_le _ _
  have := sN_eq
  omega
theorem sq_le2 {a b : Int} (h0 : -b ≤ a) (h1 : a ≤ b) : a * a ≤ b * b := by
  have := Int.mul_nonneg (a := b - a) (b := b + a) (by omega) (by omega)
  grind
theorem isq_lt {n k : Int} (n0 : 0 ≤ n) (n1 : n ≤ 1000000000000000000) (k0 : 0 ≤ k) (h : n < k * k) : isq n < k := by
  obtain ⟨a, _, b, c⟩ := isq_ok n0 (by omega)
  rcases Int.lt_or_le (isq n) k with g | g
  · exact g
  · have := Int.mul_le_mul g g k0 a
    omega
theorem quo_lt {m k s : Int} (hs : 0 < s) (h : m < k * s) : m / s < k := Int.ediv_lt_of_lt_mul hs h
theorem lnv_lim {n l s k t : Int} (hs : 0 < s) (l0 : 0 ≤ l) (hl : l * l ≤ 2 * s) (h0 : -(k * l) ≤ 100 * n) (h1 : 100 * n ≤ k * l) (k0 : 0 ≤ k) (t0 : 0 ≤ t) (tb : t ≤ 1000) (hk : 2 * (k * k) < 10000 * (t * t)) : isq (n * n / s) < t := by
  have a := sq_le2 h0 h1
  have b := Int.mul_le_mul_of_nonneg_left hl (Int.mul_nonneg k0 k0)
  have c := Int.mul_lt_mul_of_pos_right hk hs
  have e1 : k * l * (k * l) = k * k * (l * l) := by grind
  have e2 : 100 * n * (100 * n) = 10000 * (n * n) := by grind
  have e3 : k * k * (2 * s) = 2 * (k * k) * s := by grind
  have e4 : 10000 * (t * t) * s = 10000 * (t * t * s) := by grind
  have d : n * n / s < t * t := quo_lt hs (by omega)
  have f := sq_le2 (a := t) (b := 1000) (by omega) tb
  exact isq_lt (Int.ediv_nonneg (sq_nn n) (by omega)) (by omega) t0 d
theorem lnv_lo {n l s : Int} (hs : 0 < s) (l0 : 0 ≤ l) (hl : l * l ≤ 2 * s) (h0 : -(4 * l) ≤ n) : -12 ≤ lnv n s := by
  unfold lnv
  split
  · have := lnv_lim (n := n) (k := 400) (t := 7) hs l0 hl (by omega) (by omega) (by omega) (by omega) (by omega) (by omega)
    omega
  · have := (isq_s2 (n * n / s)).1
    omega
theorem lnv_hi {n l s : Int} (hs : 0 < s) (l0 : 0 ≤ l) (hl : l * l ≤ 2 * s) (h0 : n ≤ 4 * l) : -12 ≤ -lnv n s := by
  unfold lnv
  split
  · have := (isq_s2 (n * n / s)).1
    omega
  · have := lnv_lim (n := n) (k := 400) (t := 7) hs l0 hl (by omega) (by omega) (by omega) (by omega) (by omega) (by omega)
    omega
theorem lnv_2 {n l s : Int} (hs : 0 < s) (l0 : 0 ≤ l) (hl : l * l ≤ 2 * s) (h0 : -(90 * l) ≤ 100 * n) (h1 : 100 * n ≤ 90 * l) : iabs (lnv n s) ≤ 2 := by
  have := lnv_lim (n := n) (k := 90) (t := 3) hs l0 hl h0 h1 (by omega) (by omega) (by omega) (by omega)
  have := (isq_s2 (n * n / s)).1
  unfold lnv iabs
  split <;> split <;> omega
theorem along_lo {n l s : Int} (hs : 0 < s) (l0 : 0 ≤ l) (hl : l * l ≤ 2 * s) (h0 : -(53 * l) ≤ 100 * n) : -2 ≤ lnv n s := by
  unfold lnv
  split
  · have := lnv_lim (n := n) (k := 53) (t := 3) hs l0 hl (by omega) (by omega) (by omega) (by omega) (by omega) (by omega)
    omega
  · have := (isq_s2 (n * n / s)).1
    omega
theorem along_hi {n l s : Int} (hs : 0 < s) (sb : s ≤ 100000000000000) (l0 : 0 ≤ l) (hl : l * l ≤ 2 * s) (h0 : 100 * n ≤ 100 * s + 53 * l) : lnv n s ≤ isq s + 2 := by
  obtain ⟨i0, _, i1, i2⟩ := isq_ok (n := s) (by omega) (by omega)
  unfold lnv
  split
  · have := (isq_s2 (n * n / s)).1
    omega
  · generalize isq s = i at *
    have li : 2 * l ≤ 3 * (i + 1) := by
      rcases Int.lt_or_le (3 * (i + 1)) (2 * l) with g | g
      · have := sq_le2 (a := 3 * (i + 1)) (b := 2 * l) (by omega) (by omega)
        have e1 : 3 * (i + 1) * (3 * (i + 1)) = 9 * ((i + 1) * (i + 1)) := by grind
        have e2 : 2 * l * (2 * l) = 4 * (l * l) := by grind
        omega
      · exact g
    have a := sq_le2 (a := 100 * n) (b := 100 * s + 53 * l) (by omega) h0
    have e1 : 100 * n * (100 * n) = 10000 * (n * n) := by grind
    have e2 : (100 * s + 53 * l) * (100 * s + 53 * l) = 10000 * (s * s) + 10600 * (l * s) + 2809 * (l * l) := by grind
    have k1 := Int.mul_le_mul_of_nonneg_right li (show 0 ≤ s by omega)
    have k2 := Int.mul_lt_mul_of_pos_right i2 hs
    have e3 : 2 * l * s = 2 * (l * s) := by grind
    have e4 : 3 * (i + 1) * s = 3 * (i * s) + 3 * s := by grind
    have e5 : (i + 1) * (i + 1) * s = i * i * s + 2 * (i * s) + s := by grind
    have e6 : (i + 3) * (i + 3) * s = i * i * s + 6 * (i * s) + 9 * s := by grind
    have p0 := Int.mul_nonneg i0 (show 0 ≤ s by omega)
    have d : n * n / s < (i + 3) * (i + 3) := quo_lt hs (by rw [e6]; omega)
    have ib : i ≤ 10000000 := by
      rcases Int.lt_or_le 10000000 i with g | g
      · have := Int.mul_le_mul (show 10000001 ≤ i by omega) (show 10000001 ≤ i by omega) (by omega) i0
        omega
      · exact g
    have f := sq_le2 (a := i + 3) (b := 10000003) (by omega) (by omega)
    have := isq_lt (Int.ediv_nonneg (sq_nn n) (by omega)) (by omega) (show 0 ≤ i + 3 by omega) d
    omega
/-- the sum of the sizes. -/
theorem l_sq (X Y : Int) : (iabs X + iabs Y) * (iabs X + iabs Y) ≤ 2 * (X * X + Y * Y) := by
  have g : ∀ X : Int, iabs X * iabs X = X * X := fun X => by
    unfold iabs
    split
    · grind
    · rfl
  have := sq_nn (iabs X - iabs Y)
  have e1 := g X
  have e2 := g Y
  grind
/-- the plain law of a fly-by turn. -/
structure FlyLaw (a1 a2 b1 b2 c1 c2 r d cx cy f sx sy ex ey : Int) : Prop where
  va : avd cx cy r f d = true
  vs : pvd sx sy = true
  ve : pvd ex ey = true
  off : iabs (lnv (-((b1 - a1) * (sy - a2) - (b2 - a2) * (sx - a1))) ((b1 - a1) * (b1 - a1) + (b2 - a2) * (b2 - a2))) ≤ 2
  far : iabs (lnv (-((c1 - b1) * (ey - b2) - (c2 - b2) * (ex - b1))) ((c1 - b1) * (c1 - b1) + (c2 - b2) * (c2 - b2))) ≤ 2
  al0 : -2 ≤ lnv ((b1 - a1) * (sx - a1) + (b2 - a2) * (sy - a2)) ((b1 - a1) * (b1 - a1) + (b2 - a2) * (b2 - a2))
  on0 : -2 ≤ lnv ((c1 - b1) * (ex - b1) + (c2 - b2) * (ey - b2)) ((c1 - b1) * (c1 - b1) + (c2 - b2) * (c2 - b2))
  al1 : lnv ((b1 - a1) * (sx - a1) + (b2 - a2) * (sy - a2)) ((b1 - a1) * (b1 - a1) + (b2 - a2) * (b2 - a2)) ≤ dst2 a1 a2 b1 b2 + 2
  on1 : lnv ((c1 - b1) * (ex - b1) + (c2 - b2) * (ey - b2)) ((c1 - b1) * (c1 - b1) + (c2 - b2) * (c2 - b2)) ≤ dst2 b1 b2 c1 c2 + 2
  pt : ∀ v p q, 0 ≤ v → v ≤ alen cx cy r f d → rayv cx cy (atg f d (alen cx cy r f d) v) r = (p, q, 0) → pvd p q = true ∧
    (d < 0 → -12 ≤ -lnv (-((b1 - a1) * (q - a2) - (b2 - a2) * (p - a1))) ((b1 - a1) * (b1 - a1) + (b2 - a2) * (b2 - a2)) ∧ -12 ≤ -lnv (-((c1 - b1) * (q - b2) - (c2 - b2) * (p - b1))) ((c1 - b1) * (c1 - b1) + (c2 - b2) * (c2 - b2))) ∧
    (¬ d < 0 → -12 ≤ lnv (-((b1 - a1) * (q - a2) - (b2 - a2) * (p - a1))) ((b1 - a1) * (b1 - a1) + (b2 - a2) * (b2 - a2)) ∧ -12 ≤ lnv (-((c1 - b1) * (q - b2) - (c2 - b2) * (p - b1))) ((c1 - b1) * (c1 - b1) + (c2 - b2) * (c2 - b2)))
theorem fy_cross {X Y Vx Vy L r nx ny : Rat} {x t1 t2 t3 : Int} (hx : Vx = L * SS (x + t1) + r * SS (x + t2) + r * SS (x + t3) + nx) (hy : Vy = L * CC (x + t1) + r * CC (x + t2) + r * CC (x + t3) + ny) :
    Y * Vx - X * Vy = (Y * CC x + X * SS x) * (L * SS t1 + r * SS t2 + r * SS t3) - (X * CC x - Y * SS x) * (L * CC t1 + r * CC t2 + r * CC t3) + (Y * nx - X * ny) := by
  have a := fy_dir X Y x t1
  have b := fy_dir X Y x t2
  have c := fy_dir X Y x t3
  rw [hx, hy]
  generalize SS (x + t1) = a1 at *
  generalize SS (x + t2) = a2 at *
  generalize SS (x + t3) = a3 at *
  generalize CC (x + t1) = b1 at *
  generalize CC (x + t2) = b2 at *
  generalize CC (x + t3) = b3 at *
  generalize Y * CC x + X * SS x = p at *
  generalize X * CC x - Y * SS x = e at *
  have h1 : L * (Y * a1 - X * b1) = L * (p * SS t1 - e * CC t1) := by rw [a]
  have h2 : r * (Y * a2 - X * b2) = r * (p * SS t2 - e * CC t2) := by rw [b]
  have h3 : r * (Y * a3 - X * b3) = r * (p * SS t3 - e * CC t3) := by rw [c]
  grind
open Go.RowKit Go.Joins Fdk
set_option linter.unusedVariables false
/-- a block of 8 cells. -/
structure C8 (w : World) (b : Nat) (x0 x1 x2 x3 x4 x5 x6 x7 : Value) : Prop where
  c0 : w.cell? ⟨b, 0, none⟩ = some x0
  c1 : w.cell? ⟨b, 1, none⟩ = some x1
  c2 : w.cell? ⟨b, 2, none⟩ = some x2
  c3 : w.cell? ⟨b, 3, none⟩ = some x3
  c4 : w.cell? ⟨b, 4, none⟩ = some x4
  c5 : w.cell? ⟨b, 5, none⟩ = some x5
  c6 : w.cell? ⟨b, 6, none⟩ = some x6
  c7 : w.cell? ⟨b, 7, none⟩ = some x7
  f0 : w.frozen? ⟨b, 0, none⟩ = false
  f1 : w.frozen? ⟨b, 1, none⟩ = false
  f2 : w.frozen? ⟨b, 2, none⟩ = false
  f3 : w.frozen? ⟨b, 3, none⟩ = false
  f4 : w.frozen? ⟨b, 4, none⟩ = false
  f5 : w.frozen? ⟨b, 5, none⟩ = false
  f6 : w.frozen? ⟨b, 6, none⟩ = false
  f7 : w.frozen? ⟨b, 7, none⟩ = false
  lt : b < w.heap.size
theorem c8_new (w : World) (x0 x1 x2 x3 x4 x5 x6 x7 : Value) (t : TypeId) : C8 (w.alloc (.cells #[x0, x1, x2, x3, x4, x5, x6, x7] t)) w.heap.size x0 x1 x2 x3 x4 x5 x6 x7 := by
  have e : (w.alloc (.cells #[x0, x1, x2, x3, x4, x5, x6, x7] t)).heap[w.heap.size]? = some (.cells #[x0, x1, x2, x3, x4, x5, x6, x7] t) := by show (w.heap.push _)[w.heap.size]? = _; simp
  exact ⟨by simp only [World.cell?, e]; rfl, by simp only [World.cell?, e]; rfl, by simp only [World.cell?, e]; rfl, by simp only [World.cell?, e]; rfl, by simp only [World.cell?, e]; rfl, by simp only [World.cell?, e]; rfl, by simp only [World.cell?, e]; rfl, by simp only [World.cell?, e]; rfl, by simp only [World.frozen?, e]; rfl, by simp only [World.frozen?, e]; rfl, by simp only [World.frozen?, e]; rfl, by simp only [World.frozen?, e]; rfl, by simp only [World.frozen?, e]; rfl, by simp only [World.frozen?, e]; rfl, by simp only [World.frozen?, e]; rfl, by simp only [World.frozen?, e]; rfl, by show _ < (w.heap.push _).size; simp⟩
theorem C8.below {w w1 : World} {b B : Nat} {x0 x1 x2 x3 x4 x5 x6 x7 : Value} (h : C8 w b x0 x1 x2 x3 x4 x5 x6 x7) (hb : Below B w w1) (hB : b < B) : C8 w1 b x0 x1 x2 x3 x4 x5 x6 x7 :=
  ⟨(hb.cell (p := ⟨b, 0, none⟩) hB).trans h.c0, (hb.cell (p := ⟨b, 1, none⟩) hB).trans h.c1, (hb.cell (p := ⟨b, 2, none⟩) hB).trans h.c2, (hb.cell (p := ⟨b, 3, none⟩) hB).trans h.c3, (hb.cell (p := ⟨b, 4, none⟩) hB).trans h.c4, (hb.cell (p := ⟨b, 5, none⟩) hB).trans h.c5, (hb.cell (p := ⟨b, 6, none⟩) hB).trans h.c6, (hb.cell (p := ⟨b, 7, none⟩) hB).trans h.c7, (hb.frozen (p := ⟨b, 0, none⟩) hB).trans h.f0, (hb.frozen (p := ⟨b, 1, none⟩) hB).trans h.f1, (hb.frozen (p := ⟨b, 2, none⟩) hB).trans h.f2, (hb.frozen (p := ⟨b, 3, none⟩) hB).trans h.f3, (hb.frozen (p := ⟨b, 4, none⟩) hB).trans h.f4, (hb.frozen (p := ⟨b, 5, none⟩) hB).trans h.f5, (hb.frozen (p := ⟨b, 6, none⟩) hB).trans h.f6, (hb.frozen (p := ⟨b, 7, none⟩) hB).trans h.f7, Nat.lt_of_lt_of_le h.lt hb.size⟩
theorem C8.next {w w1 : World} {b : Nat} {x0 x1 x2 x3 x4 x5 x6 x7 : Value} (h : C8 w b x0 x1 x2 x3 x4 x5 x6 x7) (hb : Below w.heap.size w w1) : C8 w1 b x0 x1 x2 x3 x4 x5 x6 x7 := h.below hb h.lt
theorem C8.alc {w : World} {b : Nat} {x0 x1 x2 x3 x4 x5 x6 x7 : Value} (h : C8 w b x0 x1 x2 x3 x4 x5 x6 x7) (o : Obj) : C8 (w.alloc o) b x0 x1 x2 x3 x4 x5 x6 x7 := h.next (below_alloc1 w o)
theorem C8.drew {w : World} {b : Nat} {x0 x1 x2 x3 x4 x5 x6 x7 : Value} (h : C8 w b x0 x1 x2 x3 x4 x5 x6 x7) : C8 w.drew b x0 x1 x2 x3 x4 x5 x6 x7 := h.next (below_draws _ w 1)
theorem C8.else {w : World} {b : Nat} {x0 x1 x2 x3 x4 x5 x6 x7 : Value} (h : C8 w b x0 x1 x2 x3 x4 x5 x6 x7) {p : Addr} (hp : p.block ≠ b) (v : Value) : C8 (w.setCell p v) b x0 x1 x2 x3 x4 x5 x6 x7 :=
  ⟨(cother (fun e => hp (by rw [e]))).trans h.c0, (cother (fun e => hp (by rw [e]))).trans h.c1, (cother (fun e => hp (by rw [e]))).trans h.c2, (cother (fun e => hp (by rw [e]))).trans h.c3, (cother (fun e => hp (by rw [e]))).trans h.c4, (cother (fun e => hp (by rw [e]))).trans h.c5, (cother (fun e => hp (by rw [e]))).trans h.c6, (cother (fun e => hp (by rw [e]))).trans h.c7, by simp [h.f0], by simp [h.f1], by simp [h.f2], by simp [h.f3], by simp [h.f4], by simp [h.f5], by simp [h.f6], by simp [h.f7], by simp [h.lt]⟩
theorem C8.put0 {w : World} {b : Nat} {x0 x1 x2 x3 x4 x5 x6 x7 : Value} (h : C8 w b x0 x1 x2 x3 x4 x5 x6 x7) (v : Value) : C8 (w.setCell ⟨b, 0, none⟩ v) b v x1 x2 x3 x4 x5 x6 x7 :=
  ⟨csame h.c0, (cother (by simp)).trans h.c1, (cother (by simp)).trans h.c2, (cother (by simp)).trans h.c3, (cother (by simp)).trans h.c4, (cother (by simp)).trans h.c5, (cother (by simp)).trans h.c6, (cother (by simp)).trans h.c7, by simp [h.f0], by simp [h.f1], by simp [h.f2], by simp [h.f3], by simp [h.f4], by simp [h.f5], by simp [h.f6], by simp [h.f7], by simp [h.lt]⟩
theorem C8.put1 {w : World} {b : Nat} {x0 x1 x2 x3 x4 x5 x6 x7 : Value} (h : C8 w b x0 x1 x2 x3 x4 x5 x6 x7) (v : Value) : C8 (w.setCell ⟨b, 1, none⟩ v) b x0 v x2 x3 x4 x5 x6 x7 :=
  ⟨(cother (by simp)).trans h.c0, csame h.c1, (cother (by simp)).trans h.c2, (cother (by simp)).trans h.c3, (cother (by simp)).trans h.c4, (cother (by simp)).trans h.c5, (cother (by simp)).trans h.c6, (cother (by simp)).trans h.c7, by simp [h.f0], by simp [h.f1], by simp [h.f2], by simp [h.f3], by simp [h.f4], by simp [h.f5], by simp [h.f6], by simp [h.f7], by simp [h.lt]⟩
theorem C8.put2 {w : World} {b : Nat} {x0 x1 x2 x3 x4 x5 x6 x7 : Value} (h : C8 w b x0 x1 x2 x3 x4 x5 x6 x7) (v : Value) : C8 (w.setCell ⟨b, 2, none⟩ v) b x0 x1 v x3 x4 x5 x6 x7 :=
  ⟨(cother (by simp)).trans h.c0, (cother (by simp)).trans h.c1, csame h.c2, (cother (by simp)).trans h.c3, (cother (by simp)).trans h.c4, (cother (by simp)).trans h.c5, (cother (by simp)).trans h.c6, (cother (by simp)).trans h.c7, by simp [h.f0], by simp [h.f1], by simp [h.f2], by simp [h.f3], by simp [h.f4], by simp [h.f5], by simp [h.f6], by simp [h.f7], by simp [h.lt]⟩
theorem C8.put3 {w : World} {b : Nat} {x0 x1 x2 x3 x4 x5 x6 x7 : Value} (h : C8 w b x0 x1 x2 x3 x4 x5 x6 x7) (v : Value) : C8 (w.setCell ⟨b, 3, none⟩ v) b x0 x1 x2 v x4 x5 x6 x7 :=
  ⟨(cother (by simp)).trans h.c0, (cother (by simp)).trans h.c1, (cother (by simp)).trans h.c2, csame h.c3, (cother (by simp)).trans h.c4, (cother (by simp)).trans h.c5, (cother (by simp)).trans h.c6, (cother (by simp)).trans h.c7, by simp [h.f0], by simp [h.f1], by simp [h.f2], by simp [h.f3], by simp [h.f4], by simp [h.f5], by simp [h.f6], by simp [h.f7], by simp [h.lt]⟩
theorem C8.put4 {w : World} {b : Nat} {x0 x1 x2 x3 x4 x5 x6 x7 : Value} (h : C8 w b x0 x1 x2 x3 x4 x5 x6 x7) (v : Value) : C8 (w.setCell ⟨b, 4, none⟩ v) b x0 x1 x2 x3 v x5 x6 x7 :=
  ⟨(cother (by simp)).trans h.c0, (cother (by simp)).trans h.c1, (cother (by simp)).trans h.c2, (cother (by simp)).trans h.c3, csame h.c4, (cother (by simp)).trans h.c5, (cother (by simp)).trans h.c6, (cother (by simp)).trans h.c7, by simp [h.f0], by simp [h.f1], by simp [h.f2], by simp [h.f3], by simp [h.f4], by simp [h.f5], by simp [h.f6], by simp [h.f7], by simp [h.lt]⟩
theorem C8.put5 {w : World} {b : Nat} {x0 x1 x2 x3 x4 x5 x6 x7 : Value} (h : C8 w b x0 x1 x2 x3 x4 x5 x6 x7) (v : Value) : C8 (w.setCell ⟨b, 5, none⟩ v) b x0 x1 x2 x3 x4 v x6 x7 :=
  ⟨(cother (by simp)).trans h.c0, (cother (by simp)).trans h.c1, (cother (by simp)).trans h.c2, (cother (by simp)).trans h.c3, (cother (by simp)).trans h.c4, csame h.c5, (cother (by simp)).trans h.c6, (cother (by simp)).trans h.c7, by simp [h.f0], by simp [h.f1], by simp [h.f2], by simp [h.f3], by simp [h.f4], by simp [h.f5], by simp [h.f6], by simp [h.f7], by simp [h.lt]⟩
theorem C8.put6 {w : World} {b : Nat} {x0 x1 x2 x3 x4 x5 x6 x7 : Value} (h : C8 w b x0 x1 x2 x3 x4 x5 x6 x7) (v : Value) : C8 (w.setCell ⟨b, 6, none⟩ v) b x0 x1 x2 x3 x4 x5 v x7 :=
  ⟨(cother (by simp)).trans h.c0, (cother (by simp)).trans h.c1, (cother (by simp)).trans h.c2, (cother (by simp)).trans h.c3, (cother (by simp)).trans h.c4, (cother (by simp)).trans h.c5, csame h.c6, (cother (by simp)).trans h.c7, by simp [h.f0], by simp [h.f1], by simp [h.f2], by simp [h.f3], by simp [h.f4], by simp [h.f5], by simp [h.f6], by simp [h.f7], by simp [h.lt]⟩
theorem C8.put7 {w : World} {b : Nat} {x0 x1 x2 x3 x4 x5 x6 x7 : Value} (h : C8 w b x0 x1 x2 x3 x4 x5 x6 x7) (v : Value) : C8 (w.setCell ⟨b, 7, none⟩ v) b x0 x1 x2 x3 x4 x5 x6 v :=
  ⟨(cother (by simp)).trans h.c0, (cother (by simp)).trans h.c1, (cother (by simp)).trans h.c2, (cother (by simp)).trans h.c3, (cother (by simp)).trans h.c4, (cother (by simp)).trans h.c5, (cother (by simp)).trans h.c6, csame h.c7, by simp [h.f0], by simp [h.f1], by simp [h.f2], by simp [h.f3], by simp [h.f4], by simp [h.f5], by simp [h.f6], by simp [h.f7], by simp [h.lt]⟩
theorem C8.put {w : World} {b : Nat} {x0 x1 x2 x3 x4 x5 x6 x7 : Value} (h : C8 w b x0 x1 x2 x3 x4 x5 x6 x7) (y0 y1 y2 y3 y4 y5 y6 y7 : Value) : C8 ((((((((w.setCell ⟨b, 0, none⟩ y0).setCell ⟨b, 1, none⟩ y1).setCell ⟨b, 2, none⟩ y2).setCell ⟨b, 3, none⟩ y3).setCell ⟨b, 4, none⟩ y4).setCell ⟨b, 5, none⟩ y5).setCell ⟨b, 6, none⟩ y6).setCell ⟨b, 7, none⟩ y7) b y0 y1 y2 y3 y4 y5 y6 y7 := ((((((((h.put0 y0).put1 y1).put2 y2).put3 y3).put4 y4).put5 y5).put6 y6).put7 y7)
theorem below_put8 {a w : World} {b : Nat} (h : Below a.heap.size a w) (hb : a.heap.size ≤ b) (y0 y1 y2 y3 y4 y5 y6 y7 : Value) : Below a.heap.size a ((((((((w.setCell ⟨b, 0, none⟩ y0).setCell ⟨b, 1, none⟩ y1).setCell ⟨b, 2, none⟩ y2).setCell ⟨b, 3, none⟩ y3).setCell ⟨b, 4, none⟩ y4).setCell ⟨b, 5, none⟩ y5).setCell ⟨b, 6, none⟩ y6).setCell ⟨b, 7, none⟩ y7) := ((((((((h.setCell (p := ⟨b, 0, none⟩) hb y0).setCell (p := ⟨b, 1, none⟩) hb y1).setCell (p := ⟨b, 2, none⟩) hb y2).setCell (p := ⟨b, 3, none⟩) hb y3).setCell (p := ⟨b, 4, none⟩) hb y4).setCell (p := ⟨b, 5, none⟩) hb y5).setCell (p := ⟨b, 6, none⟩) hb y6).setCell (p := ⟨b, 7, none⟩) hb y7)
theorem navSize_any (n : Int) (w : World) (h0 : -9223372036854775807 ≤ n) (h1 : n ≤ 9223372036854775807) :
    Calls Try.prog 7 #[.int .i64 n] w fun e w' => e = .returned (.int .i64 (iabs n)) ∧ w = w' := by
  by_cases h : n < 0
  · have hq : Hid (iabs n = -n) := by show iabs n = _; unfold iabs; rw [if_pos h]
    have e0 : IntKind.i64.wrap (-n) = -n := IntWalk.i64_in _ (by omega)
    go_enter Try.func7, Try.ntmps7
    go_wp2
    go_ret
    exact ⟨by rw [hq.out]; rfl, rfl⟩
  · have hq : Hid (iabs n = n) := by show iabs n = _; unfold iabs; rw [if_neg h]
    go_enter Try.func7, Try.ntmps7
    go_wp2
    go_ret
    exact ⟨by rw [hq.out]; rfl, rfl⟩
theorem isq_sN (n : Int) : 0 ≤ isq n ∧ isq n ≤ 5000000000 := by
  unfold isq
  have h : grt (fun k => decide ((k : Int) * k ≤ n)) sN ≤ sN := grt_le _ _
  have := sN_eq
  omega
theorem lnv_b (n s : Int) : -5000000000 ≤ lnv n s ∧ lnv n s ≤ 5000000000 := by
  have := isq_sN (n * n / s)
  unfold lnv
  split <;> omega
theorem alen_b2 {x y r f s : Int} (h : avd x y r f s = true) : 0 ≤ alen x y r f s ∧ alen x y r f s ≤ 100000000 := by
  have hN : qnear (r * iabs s) 20626481 = alen x y r f s := by unfold alen; rw [h]; rfl
  obtain ⟨hp, ⟨r0, r1⟩, _, s0, s1⟩ := avd_of h
  have a0 : 0 ≤ iabs s := by unfold iabs; split <;> omega
  have a1 : iabs s ≤ 129600000 := by unfold iabs; split <;> omega
  have k := pb (p := r) (q := iabs s) (A := 8000000) (B := 129600000) 1036800000000000 (by omega) (by omega) (by omega) (by decide)
  have k0 := Int.mul_nonneg (show 0 ≤ r by omega) a0
  rw [← hN]; unfold qnear; omega
theorem at2_east : at2 (1 - 0) (0 - 0) = 32400000 := by
  have h : ata 1 0 = 0 := ata_eq (by omega) (by omega) 0 (by omega) (by omega) (by rw [sn_0]; omega) (fun _ => by rw [show sn (0 + 1) = 52 by decide +kernel]; omega)
  rw [show (1 : Int) - 0 = 1 by omega, show (0 : Int) - 0 = 0 by omega]
  unfold at2
  rw [if_pos (by omega)]
  unfold atq
  rw [show iabs 0 = 0 by unfold iabs; rw [if_neg (by omega)], show iabs 1 = 1 by unfold iabs; rw [if_neg (by omega)], if_pos (by omega), show max (0 : Int) 1 = 1 by omega, show min (0 : Int) 1 = 0 by omega, h]
  omega
theorem tmod_b (a : Int) : -1000 ≤ a.tmod 1001 ∧ a.tmod 1001 ≤ 1000 := by
  have h1 := Int.tmod_lt_of_pos a (show 0 < (1001 : Int) by omega)
  have h2 := Int.lt_tmod_of_pos a (show 0 < (1001 : Int) by omega)
  omega
theorem place_b {n k : Int} (n0 : 0 ≤ n) (k0 : 0 ≤ k) (k1 : k ≤ 1000) : 0 ≤ n / 1000 * k ∧ 0 ≤ n % 1000 * k ∧ n % 1000 * k ≤ 1000000 ∧ 0 ≤ n % 1000 * k / 1000 ∧ n / 1000 * k + n % 1000 * k / 1000 ≤ n := by
  have h0 : 0 ≤ n / 1000 := by omega
  have h1 : 0 ≤ n % 1000 := by omega
  have h2 : n % 1000 ≤ 999 := by omega
  have p0 := Int.mul_nonneg h0 k0
  have p1 := Int.mul_nonneg h1 k0
  have p2 := Int.mul_le_mul_of_nonneg_left k1 h0
  have p3 := Int.mul_le_mul_of_nonneg_left k1 h1
  generalize n / 1000 * k = A at *
  generalize n % 1000 * k = B at *
  omega

abbrev bendV (a1 a2 b1 b2 c1 c2 r pl : Int) : Value := .agg #[.int .i64 a1, .int .i64 a2, .int .i64 b1, .int .i64 b2, .int .i64 c1, .int .i64 c2, .int .i64 r, .int .i64 pl]
set_option maxRecDepth 8000 in
set_option maxHeartbeats 40000000 in
theorem bend_walk (a1 a2 b1 b2 c1 c2 r pl : Int) (p0 : -9223372036854775808 ≤ pl) (p1 : pl ≤ 9223372036854775807) (w : World)
    (HP : Hid (∀ X Y d L cx cy f sx sy ex ey, Fly a1 a2 b1 b2 c1 c2 r X Y d L cx cy f sx sy ex ey → FlyLaw a1 a2 b1 b2 c1 c2 r d cx cy f sx sy ex ey)) :
    Calls Try.prog 3 #[bendV a1 a2 b1 b2 c1 c2 r pl] w fun e w' => e = .returned (.bool true) ∧ Below w.heap.size w w' := by
  have HC := Lib.hid (fun w => course_ne 0 0 1 0 w (by decide) (by decide) (by decide))
  rw [show at2 (1 - 0) (0 - 0) = 32400000 from at2_east] at HC
  go_enter Try.func3, Try.ntmps3
  go_wp2_with fail
  have B := below_alloc1 w (.cells #[.int .i64 a1, .int .i64 a2, .int .i64 b1, .int .i64 b2, .int .i64 c1, .int .i64 c2, .int .i64 r, .int .i64 pl] 25)
  have T := c8_new w (.int .i64 a1) (.int .i64 a2) (.int .i64 b1) (.int .i64 b2) (.int .i64 c1) (.int .i64 c2) (.int .i64 r) (.int .i64 pl) 25
  generalize w.alloc (.cells #[.int .i64 a1, .int .i64 a2, .int .i64 b1, .int .i64 b2, .int .i64 c1, .int .i64 c2, .int .i64 r, .int .i64 pl] 25) = w0 at *
  refine (HC.out _).mono ?_
  rintro e w1 ⟨rfl, hb⟩
  replace B := thn B hb
  replace T := T.next hb
  clear hb
  obtain ⟨t0, t1, t2, t3, t4, t5, t6, t7, t8, t9, t10, t11, t12, t13, t14, t15, tl⟩ := id T
  go_wp2_with fail
  clear t0 t1 t2 t3 t4 t5 t6 t7 t8 t9 t10 t11 t12 t13 t14 t15 tl
  have HF := flyby_walk a1 a2 b1 b2 c1 c2 r w1 (fun e => (∃ E : Int, ¬ E = 0 ∧ e = .returned (.tuple #[flyV 0 0 0 0 0 0 0 0 0 0, .int .i64 E])) ∨ (∃ X Y d L cx cy f sx sy ex ey, Fly a1 a2 b1 b2 c1 c2 r X Y d L cx cy f sx sy ex ey ∧ e = .returned (.tuple #[flyV cx cy r f d sx sy ex ey L, .int .i64 0])))
    (Lib.hid fun E h => .inl ⟨E, h, rfl⟩) (Lib.hid fun X Y d L cx cy f sx sy ex ey h => .inr ⟨X, Y, d, L, cx, cy, f, sx, sy, ex, ey, h, rfl⟩)
  refine HF.mono ?_
  rintro e w2 ⟨⟨E, hE, rfl⟩ | ⟨X, Y, d, L, cx, cy, f, sx, sy, ex, ey, hF, rfl⟩, hb⟩
  · clear HF
    replace B := thn B hb
    clear hb T
    go_wp2_with fail
    go_ret
    exact ⟨rfl, alc B _⟩
  have W := HP.out _ _ _ _ _ _ _ _ _ _ _ hF
  have nab := hF.nab
  have nbc := hF.nbc
  have HO1 := Lib.hid (fun w => offset_ne a1 a2 b1 b2 sx sy w hF.va hF.vb W.vs nab)
  have HO2 := Lib.hid (fun w => offset_ne b1 b2 c1 c2 ex ey w hF.vb hF.vc W.ve nbc)
  have HP1 := Lib.hid (fun p q (h : pvd p q = true) w => offset_ne a1 a2 b1 b2 p q w hF.va hF.vb h nab)
  have HP2 := Lib.hid (fun p q (h : pvd p q = true) w => offset_ne b1 b2 c1 c2 p q w hF.vb hF.vc h nbc)
  have HL := Lib.hid (fun w => alen_any cx cy r f d w)
  have HA := Lib.hid (fun v w h0 h1 => tat_any cx cy r f d v w W.va h0 h1)
  have HD1 := Lib.hid (fun w => ldist_any a1 a2 b1 b2 w)
  have HD2 := Lib.hid (fun w => ldist_any b1 b2 c1 c2 w)
  have N0 := alen_b2 W.va
  have D1b : 0 ≤ dst2 a1 a2 b1 b2 ∧ dst2 a1 a2 b1 b2 ≤ 5000000000 := by
    unfold dst2
    split
    · exact isq_sN _
    · decide
  have D2b : 0 ≤ dst2 b1 b2 c1 c2 ∧ dst2 b1 b2 c1 c2 ≤ 5000000000 := by
    unfold dst2
    split
    · exact isq_sN _
    · decide
  obtain ⟨_, _, _, w1_, w2_, w3_, w4_, w5_, w6_, hpt⟩ := W
  replace hpt := Lib.hid hpt
  have o1 := lnv_b (-((b1 - a1) * (sy - a2) - (b2 - a2) * (sx - a1))) ((b1 - a1) * (b1 - a1) + (b2 - a2) * (b2 - a2))
  have o2 := lnv_b (-((c1 - b1) * (ey - b2) - (c2 - b2) * (ex - b1))) ((c1 - b1) * (c1 - b1) + (c2 - b2) * (c2 - b2))
  generalize lnv (-((b1 - a1) * (sy - a2) - (b2 - a2) * (sx - a1))) ((b1 - a1) * (b1 - a1) + (b2 - a2) * (b2 - a2)) = off at *
  generalize lnv (-((c1 - b1) * (ey - b2) - (c2 - b2) * (ex - b1))) ((c1 - b1) * (c1 - b1) + (c2 - b2) * (c2 - b2)) = far at *
  generalize lnv ((b1 - a1) * (sx - a1) + (b2 - a2) * (sy - a2)) ((b1 - a1) * (b1 - a1) + (b2 - a2) * (b2 - a2)) = along at *
  generalize lnv ((c1 - b1) * (ex - b1) + (c2 - b2) * (ey - b2)) ((c1 - b1) * (c1 - b1) + (c2 - b2) * (c2 - b2)) = on at *
  have HN1 := Lib.hid (fun w => navSize_any off w (by omega) (by omega))
  have HN2 := Lib.hid (fun w => navSize_any far w (by omega) (by omega))
  generalize dst2 a1 a2 b1 b2 = D1 at *
  generalize dst2 b1 b2 c1 c2 = D2 at *
  generalize iabs off = i1 at *
  generalize iabs far = i2 at *
  have f1 : ¬ i1 > 2 := by omega
  have f2 : ¬ i2 > 2 := by omega
  have f3 : ¬ along < -2 := by omega
  have f4 : ¬ on < -2 := by omega
  have f5 : ¬ along > D1 + 2 := by omega
  have f6 : ¬ on > D2 + 2 := by omega
  have e5 : IntKind.i64.wrap (D1 + 2) = D1 + 2 := IntWalk.i64_in _ (by omega)
  have e6 : IntKind.i64.wrap (D2 + 2) = D2 + 2 := IntWalk.i64_in _ (by omega)
  clear nab nbc o1 o2 D1b D2b w1_ w2_ w3_ w4_ w5_ w6_ HF HP hF
  replace B := thn B hb
  replace T := T.next hb
  clear hb
  go_upto_region 5 with fail
  have O := c10_new w2 (.int .i64 cx) (.int .i64 cy) (.int .i64 r) (.int .i64 f) (.int .i64 d) (.int .i64 sx) (.int .i64 sy) (.int .i64 ex) (.int .i64 ey) (.int .i64 L) 32
  replace B := alc B (.cells #[.int .i64 cx, .int .i64 cy, .int .i64 r, .int .i64 f, .int .i64 d, .int .i64 sx, .int .i64 sy, .int .i64 ex, .int .i64 ey, .int .i64 L] 32)
  replace T := T.alc (.cells #[.int .i64 cx, .int .i64 cy, .int .i64 r, .int .i64 f, .int .i64 d, .int .i64 sx, .int .i64 sy, .int .i64 ex, .int .i64 ey, .int .i64 L] 32)
  generalize w2.alloc (.cells #[.int .i64 cx, .int .i64 cy, .int .i64 r, .int .i64 f, .int .i64 d, .int .i64 sx, .int .i64 sy, .int .i64 ex, .int .i64 ey, .int .i64 L] 32) = v0 at *
  generalize w2.heap.size = bo at *
  obtain ⟨t0, t1, t2, t3, t4, t5, t6, t7, t8, t9, t10, t11, t12, t13, t14, t15, tl⟩ := id T
  obtain ⟨z0, z1, z2, z3, z4, z5, z6, z7, z8, z9, z10, z11, z12, z13, z14, z15, z16, z17, z18, z19, zl⟩ := id O
  go_wp2_with fail
  clear t0 t1 t2 t3 t4 t5 t6 t7 t8 t9 t10 t11 t12 t13 t14 t15 tl z0 z1 z2 z3 z4 z5 z6 z7 z8 z9 z10 z11 z12 z13 z14 z15 z16 z17 z18 z19 zl
  refine (HO1.out _).mono ?_
  rintro e w3 ⟨rfl, hb⟩
  replace B := thn B hb
  replace T := T.next hb
  replace O := O.next hb
  clear hb
  obtain ⟨t0, t1, t2, t3, t4, t5, t6, t7, t8, t9, t10, t11, t12, t13, t14, t15, tl⟩ := id T
  obtain ⟨z0, z1, z2, z3, z4, z5, z6, z7, z8, z9, z10, z11, z12, z13, z14, z15, z16, z17, z18, z19, zl⟩ := id O
  go_wp2_with fail
  clear t0 t1 t2 t3 t4 t5 t6 t7 t8 t9 t10 t11 t12 t13 t14 t15 tl z0 z1 z2 z3 z4 z5 z6 z7 z8 z9 z10 z11 z12 z13 z14 z15 z16 z17 z18 z19 zl
  refine (HO2.out _).mono ?_
  rintro e w4 ⟨rfl, hb⟩
  replace B := thn B hb
  replace T := T.next hb
  replace O := O.next hb
  clear hb
  clear HO1 HO2
  obtain ⟨t0, t1, t2, t3, t4, t5, t6, t7, t8, t9, t10, t11, t12, t13, t14, t15, tl⟩ := id T
  obtain ⟨z0, z1, z2, z3, z4, z5, z6, z7, z8, z9, z10, z11, z12, z13, z14, z15, z16, z17, z18, z19, zl⟩ := id O
  go_wp2_with (first | (go_at_call 7; refine (HN1.out _).mono ?_; rintro e w' ⟨rfl, rfl⟩) | (go_at_call 7; refine (HN2.out _).mono ?_; rintro e w' ⟨rfl, rfl⟩))
  clear t0 t1 t2 t3 t4 t5 t6 t7 t8 t9 t10 t11 t12 t13 t14 t15 tl z0 z1 z2 z3 z4 z5 z6 z7 z8 z9 z10 z11 z12 z13 z14 z15 z16 z17 z18 z19 zl
  refine (HD1.out _).mono ?_
  rintro e w5 ⟨rfl, hb⟩
  replace B := thn B hb
  replace T := T.next hb
  replace O := O.next hb
  clear hb
  obtain ⟨t0, t1, t2, t3, t4, t5, t6, t7, t8, t9, t10, t11, t12, t13, t14, t15, tl⟩ := id T
  obtain ⟨z0, z1, z2, z3, z4, z5, z6, z7, z8, z9, z10, z11, z12, z13, z14, z15, z16, z17, z18, z19, zl⟩ := id O
  go_wp2_with fail
  clear t0 t1 t2 t3 t4 t5 t6 t7 t8 t9 t10 t11 t12 t13 t14 t15 tl z0 z1 z2 z3 z4 z5 z6 z7 z8 z9 z10 z11 z12 z13 z14 z15 z16 z17 z18 z19 zl
  refine (HD2.out _).mono ?_
  rintro e w6 ⟨rfl, hb⟩
  replace B := thn B hb
  replace T := T.next hb
  replace O := O.next hb
  clear hb
  have pb_ : -1000 ≤ pl.tmod 1001 ∧ pl.tmod 1001 ≤ 1000 := tmod_b pl
  have e7 : IntKind.i64.wrap (pl.tmod 1001) = pl.tmod 1001 := IntWalk.i64_in _ (by omega)
  have e8 : IntKind.i64.wrap (-(pl.tmod 1001)) = -(pl.tmod 1001) := IntWalk.i64_in _ (by omega)
  clear HD1 HD2 HN1 HN2
  obtain ⟨t0, t1, t2, t3, t4, t5, t6, t7, t8, t9, t10, t11, t12, t13, t14, t15, tl⟩ := id T
  obtain ⟨z0, z1, z2, z3, z4, z5, z6, z7, z8, z9, z10, z11, z12, z13, z14, z15, z16, z17, z18, z19, zl⟩ := id O
  by_cases hk : pl.tmod 1001 < 0
  · have K0 : 0 ≤ -(pl.tmod 1001) ∧ -(pl.tmod 1001) ≤ 1000 := by omega
    go_wp2_with fail
    clear e7 e8 hk pb_
    generalize -(pl.tmod 1001) = K at *
    clear f1 f2 f3 f4 f5 f6 e5 e6 t0 t1 t2 t3 t4 t5 t6 t7 t8 t9 t10 t11 t12 t13 t14 t15 tl z0 z1 z2 z3 z4 z5 z6 z7 z8 z9 z10 z11 z12 z13 z14 z15 z16 z17 z18 z19 zl
    refine (HL.out _).mono ?_
    rintro e w7 ⟨rfl, hb⟩
    replace B := thn B hb
    replace T := T.next hb
    replace O := O.next hb
    clear hb
    clear HL
    generalize alen cx cy r f d = N at *
    have pb := place_b N0.1 K0.1 K0.2
    have g1 : N.tdiv 1000 = N / 1000 := Int.tdiv_eq_ediv_of_nonneg N0.1
    have g2 : IntKind.i64.wrap (N / 1000) = N / 1000 := IntWalk.i64_in _ (by omega)
    have g3 : IntKind.i64.wrap (N / 1000 * K) = N / 1000 * K := IntWalk.i64_in _ (by omega)
    have g4 : N.tmod 1000 = N % 1000 := Int.tmod_eq_emod_of_nonneg N0.1
    have g5 : IntKind.i64.wrap (N % 1000) = N % 1000 := IntWalk.i64_in _ (by omega)
    have g6 : IntKind.i64.wrap (N % 1000 * K) = N % 1000 * K := IntWalk.i64_in _ (by omega)
    have g7 : (N % 1000 * K).tdiv 1000 = N % 1000 * K / 1000 := Int.tdiv_eq_ediv_of_nonneg pb.2.1
    have g8 : IntKind.i64.wrap (N % 1000 * K / 1000) = N % 1000 * K / 1000 := IntWalk.i64_in _ (by omega)
    have g9 : IntKind.i64.wrap (N / 1000 * K + N % 1000 * K / 1000) = N / 1000 * K + N % 1000 * K / 1000 := IntWalk.i64_in _ (by omega)
    obtain ⟨v, hv⟩ : ∃ v, v = N / 1000 * K + N % 1000 * K / 1000 := ⟨_, rfl⟩
    have v0_ : 0 ≤ v := by omega
    have v1_ : v ≤ N := by omega
    replace g9 : IntKind.i64.wrap (N / 1000 * K + N % 1000 * K / 1000) = v := g9.trans hv.symm
    have HV := Lib.hid (HA.out v)
    clear hv pb HA
    obtain ⟨t0, t1, t2, t3, t4, t5, t6, t7, t8, t9, t10, t11, t12, t13, t14, t15, tl⟩ := id T
    obtain ⟨z0, z1, z2, z3, z4, z5, z6, z7, z8, z9, z10, z11, z12, z13, z14, z15, z16, z17, z18, z19, zl⟩ := id O
    go_wp2_with fail
    clear g1 g2 g3 g4 g5 g6 g7 g8 g9
    clear t0 t1 t2 t3 t4 t5 t6 t7 t8 t9 t10 t11 t12 t13 t14 t15 tl z0 z1 z2 z3 z4 z5 z6 z7 z8 z9 z10 z11 z12 z13 z14 z15 z16 z17 z18 z19 zl
    refine (HV.out _ v0_ v1_).mono ?_
    rintro e w8 ⟨⟨p, q, c, rfl, hz⟩, hb⟩
    clear HV
    replace B := thn B hb
    replace T := T.next hb
    replace O := O.next hb
    clear hb
    obtain ⟨z, hz0⟩ : ∃ z, z = (rayv cx cy (atg f d N v) r).2.2 := ⟨_, rfl⟩
    rw [← hz0] at hz ⊢
    rcases hz with hz | hz
    · subst hz
      go_wp2_with fail
      go_ret
      exact ⟨rfl, alc B _⟩
    rw [hz] at hz0
    subst hz0
    obtain ⟨hpq, hneg, hpos⟩ := hpt.out v p q v0_ v1_ hz
    have HO1 := Lib.hid (HP1.out p q hpq)
    have HO2 := Lib.hid (HP2.out p q hpq)
    have o1 := lnv_b (-((b1 - a1) * (q - a2) - (b2 - a2) * (p - a1))) ((b1 - a1) * (b1 - a1) + (b2 - a2) * (b2 - a2))
    have o2 := lnv_b (-((c1 - b1) * (q - b2) - (c2 - b2) * (p - b1))) ((c1 - b1) * (c1 - b1) + (c2 - b2) * (c2 - b2))
    generalize lnv (-((b1 - a1) * (q - a2) - (b2 - a2) * (p - a1))) ((b1 - a1) * (b1 - a1) + (b2 - a2) * (b2 - a2)) = inn at *
    generalize lnv (-((c1 - b1) * (q - b2) - (c2 - b2) * (p - b1))) ((c1 - b1) * (c1 - b1) + (c2 - b2) * (c2 - b2)) = out at *
    have e1 : IntKind.i64.wrap (-inn) = -inn := IntWalk.i64_in _ (by omega)
    have e2 : IntKind.i64.wrap (-out) = -out := IntWalk.i64_in _ (by omega)
    clear o1 o2 hz hpt HP1 HP2 hpq v0_ v1_ N0
    go_upto_region 16 with fail
    have Q := c2_new w8 (.int .i64 p) (.int .i64 q) 23
    replace B := alc B (.cells #[.int .i64 p, .int .i64 q] 23)
    replace T := T.alc (.cells #[.int .i64 p, .int .i64 q] 23)
    replace O := O.alc (.cells #[.int .i64 p, .int .i64 q] 23)
    generalize w8.alloc (.cells #[.int .i64 p, .int .i64 q] 23) = v2 at *
    generalize w8.heap.size = bq at *
    obtain ⟨t0, t1, t2, t3, t4, t5, t6, t7, t8, t9, t10, t11, t12, t13, t14, t15, tl⟩ := id T
    obtain ⟨z0, z1, z2, z3, z4, z5, z6, z7, z8, z9, z10, z11, z12, z13, z14, z15, z16, z17, z18, z19, zl⟩ := id O
    obtain ⟨q0, q1, q2, q3, ql⟩ := id Q
    go_wp2_with fail
    clear t0 t1 t2 t3 t4 t5 t6 t7 t8 t9 t10 t11 t12 t13 t14 t15 tl z0 z1 z2 z3 z4 z5 z6 z7 z8 z9 z10 z11 z12 z13 z14 z15 z16 z17 z18 z19 zl
    clear q0 q1 q2 q3 ql
    refine (HO1.out _).mono ?_
    rintro e w9 ⟨rfl, hb⟩
    replace B := thn B hb
    replace T := T.next hb
    replace O := O.next hb
    replace Q := Q.next hb
    clear hb
    obtain ⟨t0, t1, t2, t3, t4, t5, t6, t7, t8, t9, t10, t11, t12, t13, t14, t15, tl⟩ := id T
    obtain ⟨z0, z1, z2, z3, z4, z5, z6, z7, z8, z9, z10, z11, z12, z13, z14, z15, z16, z17, z18, z19, zl⟩ := id O
    obtain ⟨q0, q1, q2, q3, ql⟩ := id Q
    go_wp2_with fail
    clear t0 t1 t2 t3 t4 t5 t6 t7 t8 t9 t10 t11 t12 t13 t14 t15 tl z0 z1 z2 z3 z4 z5 z6 z7 z8 z9 z10 z11 z12 z13 z14 z15 z16 z17 z18 z19 zl
    clear q0 q1 q2 q3 ql
    refine (HO2.out _).mono ?_
    rintro e w10 ⟨rfl, hb⟩
    replace B := thn B hb
    replace T := T.next hb
    replace O := O.next hb
    clear hb
    clear HO1 HO2 Q
    obtain ⟨t0, t1, t2, t3, t4, t5, t6, t7, t8, t9, t10, t11, t12, t13, t14, t15, tl⟩ := id T
    obtain ⟨z0, z1, z2, z3, z4, z5, z6, z7, z8, z9, z10, z11, z12, z13, z14, z15, z16, z17, z18, z19, zl⟩ := id O
    by_cases hd : d < 0
    · obtain ⟨n1, n2⟩ := hneg hd
      clear hneg hpos
      go_wp2_with fail
      go_ret
      exact ⟨by first | rfl | simp, B⟩
    · obtain ⟨n1, n2⟩ := hpos (by omega)
      clear hneg hpos
      go_wp2_with fail
      go_ret
      exact ⟨by first | rfl | simp, B⟩
  · have K0 : 0 ≤ pl.tmod 1001 ∧ pl.tmod 1001 ≤ 1000 := by omega
    go_wp2_with fail
    clear e7 e8 hk pb_
    generalize pl.tmod 1001 = K at *
    clear f1 f2 f3 f4 f5 f6 e5 e6 t0 t1 t2 t3 t4 t5 t6 t7 t8 t9 t10 t11 t12 t13 t14 t15 tl z0 z1 z2 z3 z4 z5 z6 z7 z8 z9 z10 z11 z12 z13 z14 z15 z16 z17 z18 z19 zl
    refine (HL.out _).mono ?_
    rintro e w7 ⟨rfl, hb⟩
    replace B := thn B hb
    replace T := T.next hb
    replace O := O.next hb
    clear hb
    clear HL
    generalize alen cx cy r f d = N at *
    have pb := place_b N0.1 K0.1 K0.2
    have g1 : N.tdiv 1000 = N / 1000 := Int.tdiv_eq_ediv_of_nonneg N0.1
    have g2 : IntKind.i64.wrap (N / 1000) = N / 1000 := IntWalk.i64_in _ (by omega)
    have g3 : IntKind.i64.wrap (N / 1000 * K) = N / 1000 * K := IntWalk.i64_in _ (by omega)
    have g4 : N.tmod 1000 = N % 1000 := Int.tmod_eq_emod_of_nonneg N0.1
    have g5 : IntKind.i64.wrap (N % 1000) = N % 1000 := IntWalk.i64_in _ (by omega)
    have g6 : IntKind.i64.wrap (N % 1000 * K) = N % 1000 * K := IntWalk.i64_in _ (by omega)
    have g7 : (N % 1000 * K).tdiv 1000 = N % 1000 * K / 1000 := Int.tdiv_eq_ediv_of_nonneg pb.2.1
    have g8 : IntKind.i64.wrap (N % 1000 * K / 1000) = N % 1000 * K / 1000 := IntWalk.i64_in _ (by omega)
    have g9 : IntKind.i64.wrap (N / 1000 * K + N % 1000 * K / 1000) = N / 1000 * K + N % 1000 * K / 1000 := IntWalk.i64_in _ (by omega)
    obtain ⟨v, hv⟩ : ∃ v, v = N / 1000 * K + N % 1000 * K / 1000 := ⟨_, rfl⟩
    have v0_ : 0 ≤ v := by omega
    have v1_ : v ≤ N := by omega
    replace g9 : IntKind.i64.wrap (N / 1000 * K + N % 1000 * K / 1000) = v := g9.trans hv.symm
    have HV := Lib.hid (HA.out v)
    clear hv pb HA
    obtain ⟨t0, t1, t2, t3, t4, t5, t6, t7, t8, t9, t10, t11, t12, t13, t14, t15, tl⟩ := id T
    obtain ⟨z0, z1, z2, z3, z4, z5, z6, z7, z8, z9, z10, z11, z12, z13, z14, z15, z16, z17, z18, z19, zl⟩ := id O
    go_wp2_with fail
    clear g1 g2 g3 g4 g5 g6 g7 g8 g9
    clear t0 t1 t2 t3 t4 t5 t6 t7 t8 t9 t10 t11 t12 t13 t14 t15 tl z0 z1 z2 z3 z4 z5 z6 z7 z8 z9 z10 z11 z12 z13 z14 z15 z16 z17 z18 z19 zl
    refine (HV.out _ v0_ v1_).mono ?_
    rintro e w8 ⟨⟨p, q, c, rfl, hz⟩, hb⟩
    clear HV
    replace B := thn B hb
    replace T := T.next hb
    replace O := O.next hb
    clear hb
    obtain ⟨z, hz0⟩ : ∃ z, z = (rayv cx cy (atg f d N v) r).2.2 := ⟨_, rfl⟩
    rw [← hz0] at hz ⊢
    rcases hz with hz | hz
    · subst hz
      go_wp2_with fail
      go_ret
      exact ⟨rfl, alc B _⟩
    rw [hz] at hz0
    subst hz0
    obtain ⟨hpq, hneg, hpos⟩ := hpt.out v p q v0_ v1_ hz
    have HO1 := Lib.hid (HP1.out p q hpq)
    have HO2 := Lib.hid (HP2.out p q hpq)
    have o1 := lnv_b (-((b1 - a1) * (q - a2) - (b2 - a2) * (p - a1))) ((b1 - a1) * (b1 - a1) + (b2 - a2) * (b2 - a2))
    have o2 := lnv_b (-((c1 - b1) * (q - b2) - (c2 - b2) * (p - b1))) ((c1 - b1) * (c1 - b1) + (c2 - b2) * (c2 - b2))
    generalize lnv (-((b1 - a1) * (q - a2) - (b2 - a2) * (p - a1))) ((b1 - a1) * (b1 - a1) + (b2 - a2) * (b2 - a2)) = inn at *
    generalize lnv (-((c1 - b1) * (q - b2) - (c2 - b2) * (p - b1))) ((c1 - b1) * (c1 - b1) + (c2 - b2) * (c2 - b2)) = out at *
    have e1 : IntKind.i64.wrap (-inn) = -inn := IntWalk.i64_in _ (by omega)
    have e2 : IntKind.i64.wrap (-out) = -out := IntWalk.i64_in _ (by omega)
    clear o1 o2 hz hpt HP1 HP2 hpq v0_ v1_ N0
    go_upto_region 16 with fail
    have Q := c2_new w8 (.int .i64 p) (.int .i64 q) 23
    replace B := alc B (.cells #[.int .i64 p, .int .i64 q] 23)
    replace T := T.alc (.cells #[.int .i64 p, .int .i64 q] 23)
    replace O := O.alc (.cells #[.int .i64 p, .int .i64 q] 23)
    generalize w8.alloc (.cells #[.int .i64 p, .int .i64 q] 23) = v2 at *
    generalize w8.heap.size = bq at *
    obtain ⟨t0, t1, t2, t3, t4, t5, t6, t7, t8, t9, t10, t11, t12, t13, t14, t15, tl⟩ := id T
    obtain ⟨z0, z1, z2, z3, z4, z5, z6, z7, z8, z9, z10, z11, z12, z13, z14, z15, z16, z17, z18, z19, zl⟩ := id O
    obtain ⟨q0, q1, q2, q3, ql⟩ := id Q
    go_wp2_with fail
    clear t0 t1 t2 t3 t4 t5 t6 t7 t8 t9 t10 t11 t12 t13 t14 t15 tl z0 z1 z2 z3 z4 z5 z6 z7 z8 z9 z10 z11 z12 z13 z14 z15 z16 z17 z18 z19 zl
    clear q0 q1 q2 q3 ql
    refine (HO1.out _).mono ?_
    rintro e w9 ⟨rfl, hb⟩
    replace B := thn B hb
    replace T := T.next hb
    replace O := O.next hb
    replace Q := Q.next hb
    clear hb
    obtain ⟨t0, t1, t2, t3, t4, t5, t6, t7, t8, t9, t10, t11, t12, t13, t14, t15, tl⟩ := id T
    obtain ⟨z0, z1, z2, z3, z4, z5, z6, z7, z8, z9, z10, z11, z12, z13, z14, z15, z16, z17, z18, z19, zl⟩ := id O
    obtain ⟨q0, q1, q2, q3, ql⟩ := id Q
    go_wp2_with fail
    clear t0 t1 t2 t3 t4 t5 t6 t7 t8 t9 t10 t11 t12 t13 t14 t15 tl z0 z1 z2 z3 z4 z5 z6 z7 z8 z9 z10 z11 z12 z13 z14 z15 z16 z17 z18 z19 zl
    clear q0 q1 q2 q3 ql
    refine (HO2.out _).mono ?_
    rintro e w10 ⟨rfl, hb⟩
    replace B := thn B hb
    replace T := T.next hb
    replace O := O.next hb
    clear hb
    clear HO1 HO2 Q
    obtain ⟨t0, t1, t2, t3, t4, t5, t6, t7, t8, t9, t10, t11, t12, t13, t14, t15, tl⟩ := id T
    obtain ⟨z0, z1, z2, z3, z4, z5, z6, z7, z8, z9, z10, z11, z12, z13, z14, z15, z16, z17, z18, z19, zl⟩ := id O
    by_cases hd : d < 0
    · obtain ⟨n1, n2⟩ := hneg hd
      clear hneg hpos
      go_wp2_with fail
      go_ret
      exact ⟨by first | rfl | simp, B⟩
    · obtain ⟨n1, n2⟩ := hpos (by omega)
      clear hneg hpos
      go_wp2_with fail
      go_ret
      exact ⟨by first | rfl | simp, B⟩
open Go.RowKit Go.Joins Fdk
set_option linter.unusedVariables false
theorem fy_dot (X Y : Rat) (x t : Int) : X * SS (x + t) + Y * CC (x + t) = (Y * CC x + X * SS x) * CC t + (X * CC x - Y * SS x) * SS t := by
  have ⟨e1, e2⟩ := CS_add x t
  rw [e1, e2]
  grind
theorem fy_mul {a b A : Rat} (a0 : 0 ≤ a) (a1 : a ≤ A) (h0 : -1 ≤ b) (h1 : b ≤ 1) : -A ≤ a * b ∧ a * b ≤ A := by
  have := mulab (a := a) (b := b) (A := A) (B := 1) (by grind) a1 h0 h1
  constructor <;> grind
theorem fy_tiny {a b A B : Rat} (a0 : 0 ≤ a) (a1 : a ≤ A) (h0 : -B ≤ b) (h1 : b ≤ B) : -(A * B) ≤ a * b ∧ a * b ≤ A * B :=
  mulab (a := a) (b := b) (by grind) a1 h0 h1
theorem fy_B {L r : Rat} (l0 : 0 ≤ L) (l1 : L ≤ 6000000) (r0 : 0 ≤ r) (r1 : r ≤ 8000000) (x y z : Int) : -22000000 ≤ L * CC x + r * CC y + r * CC z ∧ L * CC x + r * CC y + r * CC z ≤ 22000000 := by
  have a := fy_mul l0 l1 (CS_1 x).1.1 (CS_1 x).1.2
  have b := fy_mul r0 r1 (CS_1 y).1.1 (CS_1 y).1.2
  have c := fy_mul r0 r1 (CS_1 z).1.1 (CS_1 z).1.2
  constructor <;> grind
theorem fy_Ain {L r : Rat} (l0 : 0 ≤ L) (l1 : L ≤ 6000000) (r0 : 0 ≤ r) (r1 : r ≤ 8000000) (w : Int) : -1 ≤ L * SS 64800000 + r * SS 32400000 + r * SS (-32400000 + w) := by
  have ⟨_, v3, v4⟩ := half_near
  have ⟨_, u1, u2⟩ := Q_near
  have ⟨_, s1, s2⟩ := CS_1 (-32400000 + w)
  generalize SS 64800000 = U at *
  generalize SS 32400000 = V at *
  generalize SS (-32400000 + w) = W at *
  have a := fy_tiny l0 l1 v3 v4
  have b := Rat.mul_nonneg (a := r) (b := V + W + 1/1000000000000000000000) r0 (by grind)
  grind
theorem fy_Ain2 {L r : Rat} (l0 : 0 ≤ L) (l1 : L ≤ 6000000) (r0 : 0 ≤ r) (r1 : r ≤ 8000000) (w : Int) : -1 ≤ -(L * SS 64800000 + r * SS (-32400000) + r * SS (32400000 + -w)) := by
  have ⟨_, v3, v4⟩ := half_near
  have ⟨_, u1, u2⟩ := Q_near
  have ⟨_, s1, s2⟩ := CS_1 (32400000 + -w)
  rw [SS_neg]
  generalize SS 64800000 = U at *
  generalize SS 32400000 = V at *
  generalize SS (32400000 + -w) = W at *
  have a := fy_tiny l0 l1 v3 v4
  have b := Rat.mul_nonneg (a := r) (b := V - W + 1/1000000000000000000000) r0 (by grind)
  grind
theorem fy_Aout {L r : Rat} (l0 : 0 ≤ L) (l1 : L ≤ 6000000) (r0 : 0 ≤ r) (r1 : r ≤ 8000000) (w D k : Int) (hk : k = 0 ∨ k = 1 ∨ k = -1) (h : -(9/10) ≤ L * SS D + r * CC D - r) :
    -1 ≤ L * SS (64800000 - D + k * 129600000) + r * SS (32400000 - D + k * 129600000) + r * SS (-32400000 + w - D + k * 129600000) := by
  have a := fy_per (64800000 - D) k hk
  have b := fy_per (32400000 - D) k hk
  have c := fy_half D
  have e := fy_q D
  have ⟨_, s1, s2⟩ := CS_1 (-32400000 + w - D + k * 129600000)
  generalize SS (64800000 - D + k * 129600000) = x1 at *
  generalize SS (32400000 - D + k * 129600000) = x2 at *
  generalize SS (-32400000 + w - D + k * 129600000) = x3 at *
  generalize SS (64800000 - D) = y1 at *
  generalize SS (32400000 - D) = y2 at *
  have a2 := fy_tiny (b := x1 - SS D) (B := 2/100000000000) l0 l1 (by grind) (by grind)
  have b2 := fy_tiny (b := x2 - CC D) (B := 2/100000000000) r0 r1 (by grind) (by grind)
  have c2 := Rat.mul_nonneg (a := r) (b := x3 + 1) r0 (by grind)
  grind
theorem fy_Aout2 {L r : Rat} (l0 : 0 ≤ L) (l1 : L ≤ 6000000) (r0 : 0 ≤ r) (r1 : r ≤ 8000000) (w D k : Int) (hk : k = 0 ∨ k = 1 ∨ k = -1) (h : -(9/10) ≤ L * SS D + r * CC D - r) :
    -1 ≤ -(L * SS (64800000 + D + k * 129600000) + r * SS (-32400000 + D + k * 129600000) + r * SS (32400000 + -w + D + k * 129600000)) := by
  have a := fy_per (64800000 + D) k hk
  have b := fy_per (-32400000 + D) k hk
  have c := fy_halfn D
  have e := fy_q D
  have n : SS (-32400000 + D) = -SS (32400000 - D) := by rw [← SS_neg]; congr 1; omega
  rw [n] at b
  have ⟨_, s1, s2⟩ := CS_1 (32400000 + -w + D + k * 129600000)
  generalize SS (64800000 + D + k * 129600000) = x1 at *
  generalize SS (-32400000 + D + k * 129600000) = x2 at *
  generalize SS (32400000 + -w + D + k * 129600000) = x3 at *
  generalize SS (64800000 + D) = y1 at *
  generalize SS (32400000 - D) = y2 at *
  have a2 := fy_tiny (b := x1 + SS D) (B := 2/100000000000) l0 l1 (by grind) (by grind)
  have b2 := fy_tiny (b := x2 + CC D) (B := 2/100000000000) r0 r1 (by grind) (by grind)
  have c2 := Rat.mul_nonneg (a := r) (b := 1 - x3) r0 (by grind)
  grind
theorem fy_abs {p e A B n l : Rat} (p0 : 0 ≤ p) (p1 : p ≤ l) (e0 : -(5206/100 * p + 201/100 * l) ≤ 1073741824 * e) (e1 : 1073741824 * e ≤ 5206/100 * p + 201/100 * l) (a0 : -(1/100) ≤ A) (a1 : A ≤ 1/100) (b0 : -6000000 ≤ B) (b1 : B ≤ 6000000) (n0 : -(52/100 * l) ≤ n) (n1 : n ≤ 52/100 * l) : -(90/100 * l) ≤ p * A - e * B + n ∧ p * A - e * B + n ≤ 90/100 * l := by
  have k := fy_tiny p0 p1 a0 a1
  have m := mulab (a := 1073741824 * e) (b := B) (A := 5407/100 * l) (B := 6000000) (by grind) (by grind) b0 b1
  have ee : p * A - e * B + n = p * A - (1073741824 * e * B) / 1073741824 + n := by grind
  rw [ee]
  generalize 1073741824 * e * B = z at *
  generalize p * A = y at *
  constructor <;> grind
open Go.RowKit Go.Joins Fdk
set_option linter.unusedVariables false
theorem fy_pe (X Y x : Int) (hx : x = at2 X Y) : ∃ p e : Rat, p = (Y : Rat) * CC x + X * SS x ∧ e = (X : Rat) * CC x - Y * SS x ∧ 0 ≤ p ∧ p ≤ ((iabs Y + iabs X : Int) : Rat) ∧
    -(5206/100 * p + 201/100 * ((iabs Y + iabs X : Int) : Rat)) ≤ 1073741824 * e ∧ 1073741824 * e ≤ 5206/100 * p + 201/100 * ((iabs Y + iabs X : Int) : Rat) ∧ p * p + e * e = ((X * X + Y * Y : Int) : Rat) := by
  refine ⟨_, _, rfl, rfl, ?_⟩
  subst hx
  obtain ⟨⟨d1, d2⟩, d3⟩ := at2_dir X Y
  have x0 := iabs_le X
  have y0 := iabs_le Y
  have ⟨⟨u1, u2⟩, v1, v2⟩ := CS_1 (at2 X Y)
  have un := CS_unit (at2 X Y)
  have nn := fy_noise X Y (x := CC (at2 X Y)) (y := -SS (at2 X Y)) (c := 1) u1 u2 (by grind) (by grind)
  rw [Rat.intCast_add]
  refine ⟨by grind, by grind, d1, d2, ?_⟩
  simp only [Rat.intCast_add, Rat.intCast_mul]
  generalize CC (at2 X Y) = C at *
  generalize SS (at2 X Y) = S at *
  generalize (X : Rat) = X at *
  generalize (Y : Rat) = Y at *
  clear d1 d2 d3 nn
  have e : (Y * C + X * S) * (Y * C + X * S) + (X * C - Y * S) * (X * C - Y * S) = (X * X + Y * Y) * (C * C + S * S) := by grind
  rw [e, un]
  grind
theorem fy_leg (X Y L Vx Vy x t : Int) (l0 : 0 ≤ L) (l1 : L ≤ 6000000) (hx : x = at2 X Y) (hs : L * L ≤ X * X + Y * Y) (t0 : -(1/1000000000) ≤ SS t) (t1 : SS t ≤ 1/1000000000)
    (hX : -(52/100) ≤ (Vx : Rat) - L * SS (x + t) ∧ (Vx : Rat) - L * SS (x + t) ≤ 52/100) (hY : -(52/100) ≤ (Vy : Rat) - L * CC (x + t) ∧ (Vy : Rat) - L * CC (x + t) ≤ 52/100) :
    (-(90 * (iabs Y + iabs X)) ≤ 100 * -(X * Vy - Y * Vx) ∧ 100 * -(X * Vy - Y * Vx) ≤ 90 * (iabs Y + iabs X)) ∧
    ∃ z : Rat, 0 ≤ z ∧ z ≤ ((X * X + Y * Y : Int) : Rat) ∧ -(53/100 * ((iabs Y + iabs X : Int) : Rat)) ≤ ((X * Vx + Y * Vy : Int) : Rat) - z * CC t ∧ ((X * Vx + Y * Vy : Int) : Rat) - z * CC t ≤ 53/100 * ((iabs Y + iabs X : Int) : Rat) := by
  obtain ⟨p, e, hp, he, p0, p1, e0, e1, pe⟩ := fy_pe X Y x hx
  have hL0 := rle l0
  have hL1 := rle l1
  have hs' := rle hs
  simp at hL0 hL1
  rw [Rat.intCast_mul] at hs'
  have ⟨⟨u1, u2⟩, v1, v2⟩ := CS_1 t
  obtain ⟨nx, hnx⟩ : ∃ n : Rat, n = (Vx : Rat) - L * SS (x + t) := ⟨_, rfl⟩
  obtain ⟨ny, hny⟩ : ∃ n : Rat, n = (Vy : Rat) - L * CC (x + t) := ⟨_, rfl⟩
  rw [← hnx] at hX
  rw [← hny] at hY
  have nz := fy_noise X Y hX.1 hX.2 hY.1 hY.2
  have nz2 := fy_noise Y X hX.1 hX.2 (y := -ny) (by grind) (by grind)
  have cr := fy_cross (X := (X : Rat)) (Y := (Y : Rat)) (Vx := (Vx : Rat)) (Vy := (Vy : Rat)) (L := (L : Rat)) (r := 0) (nx := nx) (ny := ny) (x := x) (t1 := t) (t2 := t) (t3 := t) (by rw [hnx]; grind) (by rw [hny]; grind)
  rw [← hp, ← he] at cr
  have dt := fy_dot (X : Rat) (Y : Rat) x t
  rw [← hp, ← he] at dt
  have lS := fy_tiny hL0 hL1 t0 t1
  have lC := fy_mul hL0 hL1 u1 u2
  have ab := fy_abs (A := (L : Rat) * SS t) (B := (L : Rat) * CC t) (n := (Y : Rat) * nx - X * ny) p0 p1 e0 e1 (by grind) (by grind) (by grind) (by grind) (by rw [Rat.intCast_add]; grind) (by rw [Rat.intCast_add]; grind)
  constructor
  · constructor
    · refine Rat.intCast_le_intCast.1 ?_
      simp only [Rat.intCast_neg, Rat.intCast_mul, Rat.intCast_sub, Rat.intCast_add] at ab ⊢
      simp at ab ⊢
      grind
    · refine Rat.intCast_le_intCast.1 ?_
      simp only [Rat.intCast_neg, Rat.intCast_mul, Rat.intCast_sub, Rat.intCast_add] at ab ⊢
      simp at ab ⊢
      grind
  · refine ⟨(L : Rat) * p, Rat.mul_nonneg hL0 p0, ?_, ?_⟩
    · have q0 : 0 ≤ ((L : Rat) - p) * ((L : Rat) - p) := by
        by_cases g : (L : Rat) ≤ p
        · have := Rat.mul_nonneg (a := p - L) (b := p - L) (by grind) (by grind)
          grind
        · exact Rat.mul_nonneg (by grind) (by grind)
      have q1 : 0 ≤ e * e := by
        by_cases g : 0 ≤ e
        · exact Rat.mul_nonneg g g
        · have := Rat.mul_nonneg (a := -e) (b := -e) (by grind) (by grind)
          grind
      grind
    · have m := mulab (a := 1073741824 * e) (b := (L : Rat) * SS t) (A := 5407/100 * ((iabs Y + iabs X : Int) : Rat)) (B := 6000000 * (1/1000000000)) (by grind) (by grind) lS.1 lS.2
      have ev : ((X * Vx + Y * Vy : Int) : Rat) - (L : Rat) * p * CC t = (1073741824 * e * ((L : Rat) * SS t)) / 1073741824 + (X * nx - Y * (-ny)) := by
        have q : (L : Rat) * (X * SS (x + t) + Y * CC (x + t)) = L * (p * CC t + e * SS t) := by rw [dt]
        simp only [Rat.intCast_mul, Rat.intCast_add]
        have w1 : (Vx : Rat) = L * SS (x + t) + nx := by rw [hnx]; grind
        have w2 : (Vy : Rat) = L * CC (x + t) + ny := by rw [hny]; grind
        rw [w1, w2]
        grind
      rw [ev]
      rw [Rat.intCast_add] at m p1 e0 e1 ⊢
      clear ev ab cr dt hp he pe hs' lC lS
      generalize 1073741824 * e * ((L : Rat) * SS t) = z at *
      generalize (X : Rat) * nx - Y * -ny = y at *
      constructor <;> grind
open Go.RowKit Go.Joins Fdk
set_option linter.unusedVariables false
set_option linter.unusedSimpArgs false
theorem fy_leg0 {a b c d : Int} (h1 : pvd a b = true) (h2 : pvd c d = true) (hne : ¬ (a = c ∧ b = d)) :
    0 < (c - a) * (c - a) + (d - b) * (d - b) ∧ (c - a) * (c - a) + (d - b) * (d - b) ≤ 32000000000000 ∧ dst2 a b c d = isq ((c - a) * (c - a) + (d - b) * (d - b)) ∧ isq ((c - a) * (c - a) + (d - b) * (d - b)) ≤ 6000000 ∧
    isq ((c - a) * (c - a) + (d - b) * (d - b)) * isq ((c - a) * (c - a) + (d - b) * (d - b)) ≤ (c - a) * (c - a) + (d - b) * (d - b) := by
  have hd : dst2 a b c d = isq ((c - a) * (c - a) + (d - b) * (d - b)) := by unfold dst2; rw [h1, h2]; rfl
  obtain ⟨⟨a0, a1⟩, b0, b1⟩ := pvd_of h1
  obtain ⟨⟨c0, c1⟩, d0, d1⟩ := pvd_of h2
  have m0 := sq_le2 (a := c - a) (b := 4000000) (by omega) (by omega)
  have m1 := sq_le2 (a := d - b) (b := 4000000) (by omega) (by omega)
  have k0 := sq_nn (c - a)
  have k1 := sq_nn (d - b)
  have hnz : c - a ≠ 0 ∨ d - b ≠ 0 := by omega
  have s0 : 0 < (c - a) * (c - a) + (d - b) * (d - b) := by
    rcases hnz with h | h
    · have : (c - a) * (c - a) ≠ 0 := Int.mul_ne_zero h h
      omega
    · have : (d - b) * (d - b) ≠ 0 := Int.mul_ne_zero h h
      omega
  refine ⟨s0, by omega, hd, ?_, ?_⟩
  · have := isq_lt (n := (c - a) * (c - a) + (d - b) * (d - b)) (k := 6000000) (by omega) (by omega) (by omega) (by omega)
    omega
  · exact (isq_ok (n := (c - a) * (c - a) + (d - b) * (d - b)) (by omega) (by omega)).2.2.1
theorem qup_ge {p c : Int} (hc : 0 < c) (hp : 0 ≤ p) : p ≤ qup p c * c ∧ 0 ≤ qup p c := by
  unfold qup
  have h := Int.ediv_mul_le (-p) (show c ≠ 0 by omega)
  rw [Int.neg_mul]
  refine ⟨by omega, ?_⟩
  rcases Int.lt_or_le 0 (-p / c) with g | g
  · have := Int.mul_pos g hc
    omega
  · omega
/-- the start. -/
theorem fy_start {a1 a2 b1 b2 sx sy L X : Int} (h1 : pvd a1 a2 = true) (h2 : pvd b1 b2 = true) (hne : ¬ (a1 = b1 ∧ a2 = b2)) (hX : X = at2 (b1 - a1) (b2 - a2)) (l0 : 0 ≤ L) (l1 : L ≤ dst2 a1 a2 b1 b2) (hS : rayv b1 b2 ((X + 64800000) % 129600000) L = (sx, sy, 0)) :
    iabs (lnv (-((b1 - a1) * (sy - a2) - (b2 - a2) * (sx - a1))) ((b1 - a1) * (b1 - a1) + (b2 - a2) * (b2 - a2))) ≤ 2 ∧
    -2 ≤ lnv ((b1 - a1) * (sx - a1) + (b2 - a2) * (sy - a2)) ((b1 - a1) * (b1 - a1) + (b2 - a2) * (b2 - a2)) ∧
    lnv ((b1 - a1) * (sx - a1) + (b2 - a2) * (sy - a2)) ((b1 - a1) * (b1 - a1) + (b2 - a2) * (b2 - a2)) ≤ dst2 a1 a2 b1 b2 + 2 := by
  obtain ⟨s0, s1, hd, i1, i2⟩ := fy_leg0 h1 h2 hne
  rw [hd] at l1 ⊢
  have xb := at2_b (b1 - a1) (b2 - a2)
  rw [← hX] at xb
  have hs := sq_le2 (a := L) (b := isq ((b1 - a1) * (b1 - a1) + (b2 - a2) * (b2 - a2))) (by omega) l1
  have ⟨r1, r2⟩ := fy_ray hS l0 (by omega) rfl (by omega) (by omega)
  have ⟨⟨u1, u2⟩, v1, v2⟩ := half_near
  have lg := fy_leg (b1 - a1) (b2 - a2) L (sx - b1) (sy - b2) X 64800000 l0 (by omega) hX (by omega) (by generalize SS 64800000 = U at *; grind) (by generalize SS 64800000 = U at *; grind) (by rw [Rat.intCast_sub]; exact r1) (by rw [Rat.intCast_sub]; exact r2)
  generalize CC 64800000 = U at *
  clear v1 v2 r1 r2 hS
  have ll := l_sq (b2 - a2) (b1 - a1)
  have l00 : 0 ≤ iabs (b2 - a2) + iabs (b1 - a1) := by have := iabs_nn (b2 - a2); have := iabs_nn (b1 - a1); omega
  have e1 : -((b1 - a1) * (sy - a2) - (b2 - a2) * (sx - a1)) = -((b1 - a1) * (sy - b2) - (b2 - a2) * (sx - b1)) := by grind
  have e2 : (b1 - a1) * (sx - a1) + (b2 - a2) * (sy - a2) = (b1 - a1) * (sx - b1) + (b2 - a2) * (sy - b2) + ((b1 - a1) * (b1 - a1) + (b2 - a2) * (b2 - a2)) := by grind
  rw [e1, e2]
  obtain ⟨⟨n0, n1⟩, z, z0, z1, m0, m1⟩ := lg
  generalize iabs (b2 - a2) + iabs (b1 - a1) = l at *
  generalize (b1 - a1) * (sx - b1) + (b2 - a2) * (sy - b2) = M at *
  have hl2 : l * l ≤ 2 * ((b1 - a1) * (b1 - a1) + (b2 - a2) * (b2 - a2)) := by omega
  generalize (b1 - a1) * (b1 - a1) + (b2 - a2) * (b2 - a2) = s at *
  have zc := Rat.mul_nonneg (a := z) (b := 1 + U) z0 (by grind)
  have zd := Rat.mul_nonneg (a := z) (b := -U) z0 (by grind)
  have q0 : -(53 * l) ≤ 100 * (M + s) := by
    refine Rat.intCast_le_intCast.1 ?_
    simp only [Rat.intCast_neg, Rat.intCast_mul, Rat.intCast_sub, Rat.intCast_add]
    simp
    grind
  have q1 : 100 * (M + s) ≤ 100 * s + 53 * l := by
    refine Rat.intCast_le_intCast.1 ?_
    simp only [Rat.intCast_neg, Rat.intCast_mul, Rat.intCast_sub, Rat.intCast_add]
    simp
    grind
  exact ⟨lnv_2 s0 l00 hl2 n0 n1, along_lo s0 l00 hl2 q0, along_hi s0 (by omega) l00 hl2 q1⟩
/-- the end. -/
theorem fy_end {a1 a2 b1 b2 sx sy L X : Int} (h1 : pvd a1 a2 = true) (h2 : pvd b1 b2 = true) (hne : ¬ (a1 = b1 ∧ a2 = b2)) (hX : X = at2 (b1 - a1) (b2 - a2)) (l0 : 0 ≤ L) (l1 : L ≤ dst2 a1 a2 b1 b2) (hS : rayv a1 a2 X L = (sx, sy, 0)) :
    iabs (lnv (-((b1 - a1) * (sy - a2) - (b2 - a2) * (sx - a1))) ((b1 - a1) * (b1 - a1) + (b2 - a2) * (b2 - a2))) ≤ 2 ∧
    -2 ≤ lnv ((b1 - a1) * (sx - a1) + (b2 - a2) * (sy - a2)) ((b1 - a1) * (b1 - a1) + (b2 - a2) * (b2 - a2)) ∧
    lnv ((b1 - a1) * (sx - a1) + (b2 - a2) * (sy - a2)) ((b1 - a1) * (b1 - a1) + (b2 - a2) * (b2 - a2)) ≤ dst2 a1 a2 b1 b2 + 2 := by
  obtain ⟨s0, s1, hd, i1, i2⟩ := fy_leg0 h1 h2 hne
  rw [hd] at l1 ⊢
  have xb := at2_b (b1 - a1) (b2 - a2)
  rw [← hX] at xb
  have hs := sq_le2 (a := L) (b := isq ((b1 - a1) * (b1 - a1) + (b2 - a2) * (b2 - a2))) (by omega) l1
  have ⟨r1, r2⟩ := fy_ray (t := X + 0) hS l0 (by omega) (by omega) (by omega) (by omega)
  have S0 : SS 0 = 0 := by decide +kernel
  have C0 : CC 0 = 1 := by decide +kernel
  have lg := fy_leg (b1 - a1) (b2 - a2) L (sx - a1) (sy - a2) X 0 l0 (by omega) hX (by omega) (by rw [S0]; grind) (by rw [S0]; grind) (by rw [Rat.intCast_sub]; exact r1) (by rw [Rat.intCast_sub]; exact r2)
  rw [C0] at lg
  clear r1 r2 hS S0 C0
  have ll := l_sq (b2 - a2) (b1 - a1)
  have l00 : 0 ≤ iabs (b2 - a2) + iabs (b1 - a1) := by have := iabs_nn (b2 - a2); have := iabs_nn (b1 - a1); omega
  obtain ⟨⟨n0, n1⟩, z, z0, z1, m0, m1⟩ := lg
  generalize iabs (b2 - a2) + iabs (b1 - a1) = l at *
  generalize (b1 - a1) * (sx - a1) + (b2 - a2) * (sy - a2) = M at *
  have hl2 : l * l ≤ 2 * ((b1 - a1) * (b1 - a1) + (b2 - a2) * (b2 - a2)) := by omega
  generalize (b1 - a1) * (b1 - a1) + (b2 - a2) * (b2 - a2) = s at *
  have q0 : -(53 * l) ≤ 100 * M := by
    refine Rat.intCast_le_intCast.1 ?_
    simp only [Rat.intCast_neg, Rat.intCast_mul, Rat.intCast_sub, Rat.intCast_add]
    simp
    grind
  have q1 : 100 * M ≤ 100 * s + 53 * l := by
    refine Rat.intCast_le_intCast.1 ?_
    simp only [Rat.intCast_neg, Rat.intCast_mul, Rat.intCast_sub, Rat.intCast_add]
    simp
    grind
  exact ⟨lnv_2 s0 l00 hl2 n0 n1, along_lo s0 l00 hl2 q0, along_hi s0 (by omega) l00 hl2 q1⟩
open Go.RowKit Go.Joins Fdk
set_option linter.unusedVariables false
set_option linter.unusedSimpArgs false
theorem fy_pt (X Y L r Vx Vy x t1 t2 t3 : Int) (l0 : 0 ≤ L) (l1 : L ≤ 6000000) (r0 : 0 ≤ r) (r1 : r ≤ 8000000) (hx : x = at2 X Y)
    (hX : -(156/100) ≤ (Vx : Rat) - L * SS (x + t1) - r * SS (x + t2) - r * SS (x + t3) ∧ (Vx : Rat) - L * SS (x + t1) - r * SS (x + t2) - r * SS (x + t3) ≤ 156/100)
    (hY : -(156/100) ≤ (Vy : Rat) - L * CC (x + t1) - r * CC (x + t2) - r * CC (x + t3) ∧ (Vy : Rat) - L * CC (x + t1) - r * CC (x + t2) - r * CC (x + t3) ≤ 156/100) :
    (-1 ≤ (L : Rat) * SS t1 + r * SS t2 + r * SS t3 → -(4 * (iabs Y + iabs X)) ≤ -(X * Vy - Y * Vx)) ∧ (-1 ≤ -((L : Rat) * SS t1 + r * SS t2 + r * SS t3) → -(X * Vy - Y * Vx) ≤ 4 * (iabs Y + iabs X)) := by
  obtain ⟨p, e, hp, he, p0, p1, e0, e1, pe⟩ := fy_pe X Y x hx
  have hL0 := rle l0
  have hL1 := rle l1
  have hr0 := rle r0
  have hr1 := rle r1
  simp at hL0 hL1 hr0 hr1
  have hB := fy_B hL0 hL1 hr0 hr1 t1 t2 t3
  obtain ⟨nx, hnx⟩ : ∃ n : Rat, n = (Vx : Rat) - L * SS (x + t1) - r * SS (x + t2) - r * SS (x + t3) := ⟨_, rfl⟩
  obtain ⟨ny, hny⟩ : ∃ n : Rat, n = (Vy : Rat) - L * CC (x + t1) - r * CC (x + t2) - r * CC (x + t3) := ⟨_, rfl⟩
  rw [← hnx] at hX
  rw [← hny] at hY
  have nz := fy_noise X Y hX.1 hX.2 hY.1 hY.2
  have cr := fy_cross (X := (X : Rat)) (Y := (Y : Rat)) (Vx := (Vx : Rat)) (Vy := (Vy : Rat)) (L := (L : Rat)) (r := (r : Rat)) (nx := nx) (ny := ny) (x := x) (t1 := t1) (t2 := t2) (t3 := t3) (by rw [hnx]; grind) (by rw [hny]; grind)
  rw [← hp, ← he] at cr
  rw [Rat.intCast_add] at p1 e0 e1
  constructor
  · intro hA
    have lo := fy_low (n := (Y : Rat) * nx - X * ny) p0 p1 e0 e1 hA hB.1 hB.2 (by grind)
    refine Rat.intCast_le_intCast.1 ?_
    simp only [Rat.intCast_neg, Rat.intCast_mul, Rat.intCast_sub, Rat.intCast_add]
    simp
    grind
  · intro hA
    have lo := fy_low (B := -((L : Rat) * CC t1 + r * CC t2 + r * CC t3)) (n := -((Y : Rat) * nx - X * ny)) p0 p1 e0 e1 hA (by grind) (by grind) (by grind)
    refine Rat.intCast_le_intCast.1 ?_
    simp only [Rat.intCast_neg, Rat.intCast_mul, Rat.intCast_sub, Rat.intCast_add]
    simp
    grind
open Go.RowKit Go.Joins Fdk
set_option linter.unusedVariables false
set_option linter.unusedSimpArgs false
theorem adiff_k {X Y d : Int} (x0 : 0 ≤ X ∧ X < 129600000) (y0 : 0 ≤ Y ∧ Y < 129600000) (hd : d = adiff X Y) : ∃ k : Int, (k = 0 ∨ k = 1 ∨ k = -1) ∧ X = Y - d + k * 129600000 := by
  unfold adiff at hd
  rcases Int.lt_or_le Y X with g | g
  · have e : (Y - X) % 129600000 = Y - X + 129600000 := by omega
    rw [e] at hd
    split at hd
    · exact ⟨1, .inr (.inl rfl), by omega⟩
    · exact ⟨0, .inl rfl, by omega⟩
  · have e : (Y - X) % 129600000 = Y - X := by omega
    rw [e] at hd
    split at hd
    · exact ⟨0, .inl rfl, by omega⟩
    · exact ⟨-1, .inr (.inr rfl), by omega⟩
theorem fy_sum {p c s b u1 u2 u3 : Rat} (h1 : -(52/100) ≤ s - b - u1 ∧ s - b - u1 ≤ 52/100) (h2 : -(52/100) ≤ c - s - u2 ∧ c - s - u2 ≤ 52/100) (h3 : -(52/100) ≤ p - c - u3 ∧ p - c - u3 ≤ 52/100) :
    -(156/100) ≤ (p - b) - u1 - u2 - u3 ∧ (p - b) - u1 - u2 - u3 ≤ 156/100 := by
  constructor <;> grind
theorem fly_law {a1 a2 b1 b2 c1 c2 r X Y d L cx cy f sx sy ex ey : Int} (h : Fly a1 a2 b1 b2 c1 c2 r X Y d L cx cy f sx sy ex ey) : FlyLaw a1 a2 b1 b2 c1 c2 r d cx cy f sx sy ex ey := by
  obtain ⟨va, vb, vc, r0, r1, nab, nbc, hX, hY, hd, hs, hL, l0, l1, hf, hS, hE, hC⟩ := h
  have A := fy_leg0 va vb nab
  have Bq := fy_leg0 vb vc nbc
  have X0 := at2_b (b1 - a1) (b2 - a2)
  rw [← hX] at X0
  have Y0 := at2_b (c1 - b1) (c2 - b2)
  rw [← hY] at Y0
  have i0 := iabs_nn d
  have D0 : d ≤ 54000000 ∧ -54000000 ≤ d := by unfold iabs at hs; split at hs <;> omega
  have c27 : cn 27000000 = 277904834 := by decide +kernel
  have s1 : 0 ≤ sn (iabs d / 2) := by have := sn_mono (a := 0) (b := iabs d / 2) (by omega) (by omega) (by omega); rw [sn_0] at this; exact this
  have s2 := cn_mono (a := iabs d / 2) (b := 27000000) (by omega) (by omega) (by omega)
  have L0 := qup_ge (p := r * sn (iabs d / 2)) (c := cn (iabs d / 2)) (by omega) (Int.mul_nonneg (by omega) s1)
  rw [← hL] at L0
  have L1 : L ≤ 6000000 := by omega
  have ld := fy_lead (D := iabs d) (h := iabs d / 2) (r := r) (L := L) (by omega) (by omega) (by omega) (by omega) r1 L0.2 L1 L0.1
  have st := fy_start va vb nab hX L0.2 l0 hS
  have en := fy_end vb vc nbc hY L0.2 l1 hE
  obtain ⟨k, hk, hXY⟩ := adiff_k X0 Y0 hd
  have hav : avd cx cy r f d = true := by
    have := (fy_of hC).2.1
    unfold avd
    rw [this]
    have f0 : 0 ≤ f ∧ f < 129600000 := by rw [hf]; omega
    simp only [Bool.true_and, Bool.and_eq_true, decide_eq_true_eq]
    omega
  refine ⟨hav, (fy_of hS).2.1, (fy_of hE).2.1, st.1, en.1, st.2.1, en.2.1, st.2.2, en.2.2, ?_⟩
  intro v p q v0 v1 hp
  refine ⟨(fy_of hp).2.1, ?_⟩
  have hN : qnear (r * iabs d) 20626481 = alen cx cy r f d := by unfold alen; rw [hav]; rfl
  generalize alen cx cy r f d = N at *
  obtain ⟨w, hw⟩ : ∃ w, w = atw d N v := ⟨_, rfl⟩
  have w0 : 0 ≤ w ∧ w ≤ 54000000 := by
    rw [hw]
    unfold atw
    split
    · omega
    · have := qn_le (S := iabs d) v0 v1 i0 (by omega)
      omega
  unfold atg at hp
  rw [← hw] at hp
  have hr0 := rle r0
  have hr1 := rle r1
  have hL0 := rle L0.2
  have hL1 := rle L1
  simp at hL0 hL1 hr0 hr1
  have hr00 : (0 : Rat) ≤ (r : Rat) := by grind
  obtain ⟨A0, _⟩ := A
  obtain ⟨B0, _⟩ := Bq
  have ll1 := l_sq (b2 - a2) (b1 - a1)
  have ll2 := l_sq (c2 - b2) (c1 - b1)
  have l10 : 0 ≤ iabs (b2 - a2) + iabs (b1 - a1) := by have := iabs_nn (b2 - a2); have := iabs_nn (b1 - a1); omega
  have l20 : 0 ≤ iabs (c2 - b2) + iabs (c1 - b1) := by have := iabs_nn (c2 - b2); have := iabs_nn (c1 - b1); omega
  have ei : -((b1 - a1) * (q - a2) - (b2 - a2) * (p - a1)) = -((b1 - a1) * (q - b2) - (b2 - a2) * (p - b1)) := by grind
  rw [ei]
  have gS := fy_ray hS L0.2 (by omega) rfl (by omega) (by omega)
  constructor
  · intro hn
    rw [if_pos hn] at hC hf hp
    have iD : iabs d = -d := by unfold iabs; rw [if_pos hn]
    rw [iD] at ld
    have gC := fy_ray hC (by omega) r1 rfl (by omega) (by omega)
    have gP := fy_ray (t := X + (32400000 + -w)) hp (by omega) r1 (by rw [hf]; omega) (by omega) (by omega)
    have hx := fy_sum gS.1 gC.1 gP.1
    have hy := fy_sum gS.2 gC.2 gP.2
    rw [← Rat.intCast_sub] at hx hy
    have k1 := (fy_pt (b1 - a1) (b2 - a2) L r (p - b1) (q - b2) X 64800000 (-32400000) (32400000 + -w) L0.2 L1 (by omega) r1 hX hx hy).2 (fy_Ain2 hL0 hL1 hr00 hr1 w)
    rw [show X + 64800000 = Y + (64800000 + -d + k * 129600000) by omega, show X + -32400000 = Y + (-32400000 + -d + k * 129600000) by omega, show X + (32400000 + -w) = Y + (32400000 + -w + -d + k * 129600000) by omega] at hx hy
    have k2 := (fy_pt (c1 - b1) (c2 - b2) L r (p - b1) (q - b2) Y _ _ _ L0.2 L1 (by omega) r1 hY hx hy).2 (fy_Aout2 hL0 hL1 hr00 hr1 w (-d) k hk ld)
    exact ⟨lnv_hi A0 l10 (by omega) k1, lnv_hi B0 l20 (by omega) k2⟩
  · intro hn
    rw [if_neg hn] at hC hf hp
    have iD : iabs d = d := by unfold iabs; rw [if_neg hn]
    rw [iD] at ld
    have gC := fy_ray hC (by omega) r1 rfl (by omega) (by omega)
    have gP := fy_ray (t := X + (-32400000 + w)) hp (by omega) r1 (by rw [hf]; omega) (by omega) (by omega)
    have hx := fy_sum gS.1 gC.1 gP.1
    have hy := fy_sum gS.2 gC.2 gP.2
    rw [← Rat.intCast_sub] at hx hy
    have k1 := (fy_pt (b1 - a1) (b2 - a2) L r (p - b1) (q - b2) X 64800000 32400000 (-32400000 + w) L0.2 L1 (by omega) r1 hX hx hy).1 (fy_Ain hL0 hL1 hr00 hr1 w)
    rw [show X + 64800000 = Y + (64800000 - d + k * 129600000) by omega, show X + 32400000 = Y + (32400000 - d + k * 129600000) by omega, show X + (-32400000 + w) = Y + (-32400000 + w - d + k * 129600000) by omega] at hx hy
    have k2 := (fy_pt (c1 - b1) (c2 - b2) L r (p - b1) (q - b2) Y _ _ _ L0.2 L1 (by omega) r1 hY hx hy).1 (fy_Aout hL0 hL1 hr00 hr1 w d k hk ld)
    exact ⟨lnv_lo A0 l10 (by omega) k1, lnv_lo B0 l20 (by omega) k2⟩
open Go.RowKit Go.Joins Fdk
set_option linter.unusedVariables false
theorem topFlyBy_walk (a1 a2 b1 b2 c1 c2 r pl : Int) (hp : -9223372036854775808 ≤ pl ∧ pl ≤ 9223372036854775807) (w : World) :
    Calls Try.prog 3 #[bendV a1 a2 b1 b2 c1 c2 r pl] w fun e w' => e = .returned (.bool true) ∧ Below w.heap.size w w' :=
  bend_walk a1 a2 b1 b2 c1 c2 r pl hp.1 hp.2 w (Lib.hid fun _ _ _ _ _ _ _ _ _ _ _ h => fly_law h)
open Go.ChangeShapes Go.WideShapes Go.ChangeAt Go.RowKit Go.Joins Go.Deep
set_option linter.unusedVariables false
theorem array8 {α : Type} {cs : Array α} (h : cs.size = 8) : ∃ c0 c1 c2 c3 c4 c5 c6 c7, cs = #[c0, c1, c2, c3, c4, c5, c6, c7] := by
  obtain ⟨l⟩ := cs
  match l, h with
  | [c0, c1, c2, c3, c4, c5, c6, c7], _ => exact ⟨c0, c1, c2, c3, c4, c5, c6, c7, rfl⟩

section
variable {H : Type} {enc : TypeId × Value → H} {w : World} {base : Nat} {spare : Nat → Bool} {held : Bool}
theorem trod_struct5 {P : Program} {t : TypeId} {f0 f1 f2 f3 f4 : Field} {fuel : Nat} {cs : List Value} {x : DataW H × List MemPlace} (ht : P.underlying t = some (.struct #[f0, f1, f2, f3, f4])) (h : DataW.trod enc P w base spare held fuel t cs = some x) :
    ∃ y0 y1 y2 y3 y4 n, x = (.agg [y0.1, y1.1, y2.1, y3.1, y4.1], y0.2 ++ (y1.2 ++ (y2.2 ++ (y3.2 ++ y4.2)))) ∧ cs.length = P.cellsOf t ∧ DataW.trod enc P w base spare held n f0.type ((cs.drop f0.offset).take (P.cellsOf f0.type)) = some y0 ∧
      DataW.trod enc P w base spare held n f1.type ((cs.drop f1.offset).take (P.cellsOf f1.type)) = some y1 ∧ DataW.trod enc P w base spare held n f2.type ((cs.drop f2.offset).take (P.cellsOf f2.type)) = some y2 ∧
      DataW.trod enc P w base spare held n f3.type ((cs.drop f3.offset).take (P.cellsOf f3.type)) = some y3 ∧ DataW.trod enc P w base spare held n f4.type ((cs.drop f4.offset).take (P.cellsOf f4.type)) = some y4 := by
  obtain ⟨xs, n, _, rfl, hl, hlen, hf⟩ := DataW.trod_struct ht h
  match xs, hlen with
  | [y0, y1, y2, y3, y4], _ => exact ⟨y0, y1, y2, y3, y4, n, by simp, hl, by simpa using hf 0 f0 rfl, by simpa using hf 1 f1 rfl, by simpa using hf 2 f2 rfl, by simpa using hf 3 f3 rfl, by simpa using hf 4 f4 rfl⟩
theorem trod_struct5_mk {P : Program} {t : TypeId} {f0 f1 f2 f3 f4 : Field} {n : Nat} {cs : List Value} {y0 y1 y2 y3 y4 : DataW H × List MemPlace} (ht : P.underlying t = some (.struct #[f0, f1, f2, f3, f4])) (hl : cs.length = P.cellsOf t)
    (h0 : DataW.trod enc P w base spare held n f0.type ((cs.drop f0.offset).take (P.cellsOf f0.type)) = some y0) (h1 : DataW.trod enc P w base spare held n f1.type ((cs.drop f1.offset).take (P.cellsOf f1.type)) = some y1)
    (h2 : DataW.trod enc P w base spare held n f2.type ((cs.drop f2.offset).take (P.cellsOf f2.type)) = some y2) (h3 : DataW.trod enc P w base spare held n f3.type ((cs.drop f3.offset).take (P.cellsOf f3.type)) = some y3)
    (h4 : DataW.trod enc P w base spare held n f4.type ((cs.drop f4.offset).take (P.cellsOf f4.type)) = some y4) :
    DataW.trod enc P w base spare held (n + 1) t cs = some (.agg [y0.1, y1.1, y2.1, y3.1, y4.1], y0.2 ++ (y1.2 ++ (y2.2 ++ (y3.2 ++ y4.2)))) := by
  have := trod_struct_mk (enc := enc) (w := w) (base := base) (spare := spare) (held := held) (n := n) (xs := [y0, y1, y2, y3, y4]) ht hl (by simp [h0, h1, h2, h3, h4])
  simpa using this
theorem ci64 : Try.prog.cellsOf 2 = 1 := by kernel_rfl
theorem cpt : Try.prog.cellsOf 23 = 2 := by kernel_rfl
theorem cbend : Try.prog.cellsOf 25 = 8 := by kernel_rfl
theorem oint {n : Nat} {c : Value} {x : DataW H × List MemPlace} (h : DataW.trod enc Try.prog w base spare held n 2 [c] = some x) :
    ∃ a : Int, c = .int .i64 a ∧ x = (.lit (.int .i64 a), []) ∧ (Lit.int .i64 a).wf = true := by
  obtain ⟨a, ea, rfl, wa⟩ := DataW.trod_int Try.underlying2 h
  simp at ea
  exact ⟨a, ea, rfl, wa⟩
theorem opt {n : Nat} {c0 c1 : Value} {x : DataW H × List MemPlace} (h : DataW.trod enc Try.prog w base spare held n 23 [c0, c1] = some x) :
    ∃ a b : Int, c0 = .int .i64 a ∧ c1 = .int .i64 b ∧ x = (.agg [.lit (.int .i64 a), .lit (.int .i64 b)], []) ∧ (Lit.int .i64 a).wf = true ∧ (Lit.int .i64 b).wf = true := by
  obtain ⟨y0, y1, m, rfl, _, h0, h1⟩ := trod_struct2 Try.underlying23 h
  have h0' : DataW.trod enc Try.prog w base spare held m 2 [c0] = some y0 := by simpa [ci64] using h0
  have h1' : DataW.trod enc Try.prog w base spare held m 2 [c1] = some y1 := by simpa [ci64] using h1
  obtain ⟨a, rfl, rfl, wa⟩ := oint h0'
  obtain ⟨b, rfl, rfl, wb⟩ := oint h1'
  exact ⟨a, b, rfl, rfl, rfl, wa, wb⟩
theorem sint {a : Int} (n : Nat) (wa : (Lit.int .i64 a).wf = true) : DataW.trod enc Try.prog w base spare held (n + 1) 2 [.int .i64 a] = some (.lit (.int .i64 a), []) :=
  trod_int_mk n Try.underlying2 wa
theorem spt {a b : Int} (n : Nat) (wa : (Lit.int .i64 a).wf = true) (wb : (Lit.int .i64 b).wf = true) :
    DataW.trod enc Try.prog w base spare held (n + 2) 23 [.int .i64 a, .int .i64 b] = some (.agg [.lit (.int .i64 a), .lit (.int .i64 b)], []) := by
  have := trod_struct2_mk (enc := enc) (P := Try.prog) (w := w) (base := base) (spare := spare) (held := held) (n := n + 1) (cs := [.int .i64 a, .int .i64 b]) (y0 := (.lit (.int .i64 a), [])) (y1 := (.lit (.int .i64 b), [])) Try.underlying23 (by simp [cpt]) (by simpa [ci64] using sint n wa) (by simpa [ci64] using sint n wb)
  simpa using this
theorem obend {r : Reach} {b0 : Nat} {v : Value} {dd : DataW H} {p : List MemPlace} (hv : Value.okWide Try.prog w r b0 25 v) (hh : DataW.Trod enc Try.prog w base spare held 25 v dd p) :
    ∃ a b c d e f g h : Int, v = .agg #[.int .i64 a, .int .i64 b, .int .i64 c, .int .i64 d, .int .i64 e, .int .i64 f, .int .i64 g, .int .i64 h] ∧ dd = .agg [.agg [.lit (.int .i64 a), .lit (.int .i64 b)], .agg [.lit (.int .i64 c), .lit (.int .i64 d)], .agg [.lit (.int .i64 e), .lit (.int .i64 f)], .lit (.int .i64 g), .lit (.int .i64 h)] ∧ p = [] ∧
      (Lit.int .i64 a).wf = true ∧ (Lit.int .i64 b).wf = true ∧ (Lit.int .i64 c).wf = true ∧ (Lit.int .i64 d).wf = true ∧ (Lit.int .i64 e).wf = true ∧ (Lit.int .i64 f).wf = true ∧ (Lit.int .i64 g).wf = true ∧ (Lit.int .i64 h).wf = true := by
  obtain ⟨cs, rfl, hsz⟩ := okWide_struct Try.underlying25 hv
  obtain ⟨c0, c1, c2, c3, c4, c5, c6, c7, rfl⟩ := array8 (hsz.trans cbend)
  obtain ⟨fuel, hf⟩ := hh
  obtain ⟨y0, y1, y2, y3, y4, n, hx, _, h0, h1, h2, h3, h4⟩ := trod_struct5 Try.underlying25 hf
  have h0' : DataW.trod enc Try.prog w base spare held n 23 [c0, c1] = some y0 := by simpa [Value.cells, cpt] using h0
  have h1' : DataW.trod enc Try.prog w base spare held n 23 [c2, c3] = some y1 := by simpa [Value.cells, cpt] using h1
  have h2' : DataW.trod enc Try.prog w base spare held n 23 [c4, c5] = some y2 := by simpa [Value.cells, cpt] using h2
  have h3' : DataW.trod enc Try.prog w base spare held n 2 [c6] = some y3 := by simpa [Value.cells, ci64] using h3
  have h4' : DataW.trod enc Try.prog w base spare held n 2 [c7] = some y4 := by simpa [Value.cells, ci64] using h4
  obtain ⟨a, b, rfl, rfl, rfl, wa, wb⟩ := opt h0'
  obtain ⟨c, d, rfl, rfl, rfl, wc, wd⟩ := opt h1'
  obtain ⟨e, f, rfl, rfl, rfl, we, wf⟩ := opt h2'
  obtain ⟨g, rfl, rfl, wg⟩ := oint h3'
  obtain ⟨h, rfl, rfl, wh⟩ := oint h4'
  simp only [Prod.mk.injEq] at hx
  exact ⟨a, b, c, d, e, f, g, h, rfl, hx.1, by simpa using hx.2, wa, wb, wc, wd, we, wf, wg, wh⟩
theorem sbend {a b c d e f g h : Int} (wa : (Lit.int .i64 a).wf = true) (wb : (Lit.int .i64 b).wf = true) (wc : (Lit.int .i64 c).wf = true) (wd : (Lit.int .i64 d).wf = true) (we : (Lit.int .i64 e).wf = true) (wf : (Lit.int .i64 f).wf = true) (wg : (Lit.int .i64 g).wf = true) (wh : (Lit.int .i64 h).wf = true) :
    DataW.Trod enc Try.prog w base spare held 25 (.agg #[.int .i64 a, .int .i64 b, .int .i64 c, .int .i64 d, .int .i64 e, .int .i64 f, .int .i64 g, .int .i64 h]) (.agg [.agg [.lit (.int .i64 a), .lit (.int .i64 b)], .agg [.lit (.int .i64 c), .lit (.int .i64 d)], .agg [.lit (.int .i64 e), .lit (.int .i64 f)], .lit (.int .i64 g), .lit (.int .i64 h)]) [] := by
  have ts := trod_struct5_mk (enc := enc) (P := Try.prog) (w := w) (base := base) (spare := spare) (held := held) (n := 2) (cs := [.int .i64 a, .int .i64 b, .int .i64 c, .int .i64 d, .int .i64 e, .int .i64 f, .int .i64 g, .int .i64 h]) (y0 := (.agg [.lit (.int .i64 a), .lit (.int .i64 b)], [])) (y1 := (.agg [.lit (.int .i64 c), .lit (.int .i64 d)], [])) (y2 := (.agg [.lit (.int .i64 e), .lit (.int .i64 f)], [])) (y3 := (.lit (.int .i64 g), [])) (y4 := (.lit (.int .i64 h), [])) Try.underlying25 (by simp [cbend]) (by simpa [cpt] using spt 0 wa wb) (by simpa [cpt] using spt 0 wc wd) (by simpa [cpt] using spt 0 we wf) (by simpa [ci64] using sint 1 wg) (by simpa [ci64] using sint 1 wh)
  exact ⟨_, by simpa [Value.cells] using ts⟩
end
end Go.Proofs.Ytpgpdglmgpjhlaa
