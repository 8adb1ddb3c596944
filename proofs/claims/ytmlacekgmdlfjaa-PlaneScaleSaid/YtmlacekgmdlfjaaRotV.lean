/- Vectors and positions against the exact rotation: the position of a vector is near its direction. -/
import Derived.Test.YtmlacekgmdlfjaaRotP
import Derived.Test.YtmlacekgmdlfjaaSphR
import Derived.Test.YtmlacekgmdlfjaaSphF
import Derived.Test.YtmlacekgmdlfjaaSphG
namespace Go.Proofs.Ytmlacekgmdlfjaa
open Go.RowKit Go.Joins Fdk
set_option linter.unusedVariables false
theorem adiff_cases {t : Int} (h0 : 0 ≤ t) (h1 : t < 129600000) : adiff 0 t = t ∨ adiff 0 t = t - 129600000 := by
  unfold adiff; split <;> omega
/-- a signed direction. -/
theorem at2s_dir (y x : Int) (L0 : (0 : Rat) ≤ (iabs x : Rat) + iabs y) : Dr (28/100) (5207/100) (202/100) ((x : Rat) * CC (adiff 0 (at2 y x)) + (y : Rat) * SS (adiff 0 (at2 y x))) ((y : Rat) * CC (adiff 0 (at2 y x)) - (x : Rat) * SS (adiff 0 (at2 y x))) ((iabs x : Rat) + iabs y) := by
  have h := at2_dir y x
  have hb := at2_b y x
  rcases adiff_cases hb.1 hb.2 with e | e
  · rw [e]
    obtain ⟨⟨d1, d2⟩, d3⟩ := h
    generalize (x : Rat) * CC (at2 y x) + (y : Rat) * SS (at2 y x) = p at *
    generalize (y : Rat) * CC (at2 y x) - (x : Rat) * SS (at2 y x) = q at *
    generalize (iabs x : Rat) + iabs y = L at *
    refine ⟨⟨?_, ?_⟩, ?_⟩ <;> grind
  · rw [e]
    have hs := CS_sub (at2 y x) 129600000
    have ⟨⟨u1, u2⟩, v1, v2⟩ := turn_near
    rw [hs.1, hs.2]
    clear hs e
    have ⟨⟨c1, c2⟩, s1, s2⟩ := CS_1 (at2 y x)
    generalize CC 129600000 = U at *
    generalize SS 129600000 = V at *
    have ix : -(iabs x : Rat) ≤ (x : Rat) ∧ (x : Rat) ≤ (iabs x : Rat) := by
      have h1 := rle (show -iabs x ≤ x by unfold iabs; split <;> omega)
      have h2 := rle (show x ≤ iabs x by unfold iabs; split <;> omega)
      rw [Rat.intCast_neg] at h1
      exact ⟨h1, h2⟩
    have iy : -(iabs y : Rat) ≤ (y : Rat) ∧ (y : Rat) ≤ (iabs y : Rat) := by
      have h1 := rle (show -iabs y ≤ y by unfold iabs; split <;> omega)
      have h2 := rle (show y ≤ iabs y by unfold iabs; split <;> omega)
      rw [Rat.intCast_neg] at h1
      exact ⟨h1, h2⟩
    generalize CC (at2 y x) = C at *
    generalize SS (at2 y x) = S at *
    generalize ((x : Int) : Rat) = X at *
    generalize ((y : Int) : Rat) = Y at *
    generalize ((iabs x : Int) : Rat) = A at *
    generalize ((iabs y : Int) : Rat) = B at *
    have k1 := mulab (a := X) (b := C) (A := A) (B := 1) ix.1 ix.2 c1 c2
    have k2 := mulab (a := X) (b := S) (A := A) (B := 1) ix.1 ix.2 s1 s2
    have k3 := mulab (a := Y) (b := C) (A := B) (B := 1) iy.1 iy.2 c1 c2
    have k4 := mulab (a := Y) (b := S) (A := B) (B := 1) iy.1 iy.2 s1 s2
    have b1 : -(A + B) ≤ X * C + Y * S ∧ X * C + Y * S ≤ A + B := by constructor <;> grind
    have b2 : -(A + B) ≤ Y * C - X * S ∧ Y * C - X * S ≤ A + B := by constructor <;> grind
    have e1 : X * (C * U + S * V) + Y * (S * U - C * V) = U * (X * C + Y * S) - V * (Y * C - X * S) := by grind
    have e2 : Y * (C * U + S * V) - X * (S * U - C * V) = U * (Y * C - X * S) + V * (X * C + Y * S) := by grind
    rw [e1, e2]
    clear e1 e2 k1 k2 k3 k4 ix iy c1 c2 s1 s2
    generalize X * C + Y * S = p at *
    generalize Y * C - X * S = q at *
    generalize A + B = L at *
    have a1 := mulab (a := p) (b := 1 - U) (A := L) (B := 3/1000000000000) b1.1 b1.2 (by grind) (by grind)
    have a2 := mulab (a := q) (b := 1 - U) (A := L) (B := 3/1000000000000) b2.1 b2.2 (by grind) (by grind)
    have a3 := mulab (a := p) (b := V) (A := L) (B := 3/1000000000000) b1.1 b1.2 v1 v2
    have a4 := mulab (a := q) (b := V) (A := L) (B := 3/1000000000000) b2.1 b2.2 v1 v2
    obtain ⟨⟨d1, d2⟩, d3⟩ := h
    have f1 : U * p - V * q = p - p * (1 - U) - q * V := by grind
    have f2 : U * q + V * p = q - q * (1 - U) + p * V := by grind
    rw [f1, f2]
    clear f1 f2 u1 u2 v1 v2 b1 b2
    generalize p * (1 - U) = T1 at *
    generalize q * (1 - U) = T2 at *
    generalize p * V = T3 at *
    generalize q * V = T4 at *
    refine ⟨⟨?_, ?_⟩, ?_⟩ <;> grind
/-- the length of a direction. -/
theorem dir_len (X Y C S : Rat) (h : C * C + S * S = 1) : (X * C + Y * S) * (X * C + Y * S) + (Y * C - X * S) * (Y * C - X * S) = X * X + Y * Y := by
  have e : (X * C + Y * S) * (X * C + Y * S) + (Y * C - X * S) * (Y * C - X * S) = (X * X + Y * Y) * (C * C + S * S) := by grind
  rw [e, h]; grind
theorem sq_le_r {a b : Rat} (h0 : 0 ≤ b) (h : a * a ≤ b * b) : -b ≤ a ∧ a ≤ b := by
  constructor
  · refine Classical.byContradiction fun hc => ?_
    have := Rat.mul_pos (a := -a - b) (b := -a - b) (by grind) (by grind)
    have := Rat.mul_nonneg (a := b) (b := -a - b) h0 (by grind)
    grind
  · refine Classical.byContradiction fun hc => ?_
    have := Rat.mul_pos (a := a - b) (b := a - b) (by grind) (by grind)
    have := Rat.mul_nonneg (a := b) (b := a - b) h0 (by grind)
    grind
theorem rle2 {a b : Int} (h : a ≤ b) : (a : Rat) ≤ (b : Rat) := Rat.intCast_le_intCast.2 h
theorem iabs_sq (x : Int) : (iabs x : Rat) * (iabs x : Rat) = (x : Rat) * (x : Rat) := by
  rw [← Rat.intCast_mul, ← Rat.intCast_mul]
  congr 1
  unfold iabs; split
  · exact Int.neg_mul_neg x x
  · rfl
theorem lsum {X Y R : Rat} (r0 : 0 ≤ R) (h : X * X + Y * Y ≤ R * R) : X + Y ≤ 14143/10000 * R := by
  refine (sq_le_r (by grind) ?_).2
  have := rsq (X - Y)
  have := rsq R
  grind
/-- the direction across and along, for the bound R of the length. -/
theorem dir_b (y x : Int) (R : Rat) (r0 : 0 ≤ R) (h : (x : Rat) * x + (y : Rat) * y ≤ R * R) :
    (-(5493/100 * R) ≤ 1073741824 * ((y : Rat) * CC (adiff 0 (at2 y x)) - (x : Rat) * SS (adiff 0 (at2 y x))) ∧ 1073741824 * ((y : Rat) * CC (adiff 0 (at2 y x)) - (x : Rat) * SS (adiff 0 (at2 y x))) ≤ 5493/100 * R) ∧
    0 ≤ (x : Rat) * CC (adiff 0 (at2 y x)) + (y : Rat) * SS (adiff 0 (at2 y x)) ∧ (x : Rat) * CC (adiff 0 (at2 y x)) + (y : Rat) * SS (adiff 0 (at2 y x)) ≤ R := by
  have x0 := iabs_le x
  have y0 := iabs_le y
  have hx := iabs_sq x
  have hy := iabs_sq y
  have d := at2s_dir y x (by grind)
  have hl := dir_len (x : Rat) (y : Rat) _ _ (CS_unit (adiff 0 (at2 y x)))
  have L := lsum (X := (iabs x : Rat)) (Y := (iabs y : Rat)) r0 (by grind)
  obtain ⟨⟨d1, d2⟩, d3⟩ := d
  generalize (x : Rat) * CC (adiff 0 (at2 y x)) + (y : Rat) * SS (adiff 0 (at2 y x)) = p at *
  generalize (y : Rat) * CC (adiff 0 (at2 y x)) - (x : Rat) * SS (adiff 0 (at2 y x)) = q at *
  have hp := sq_le_r (a := p) r0 (by have := rsq q; grind)
  refine ⟨⟨?_, ?_⟩, ?_, hp.2⟩ <;> grind
/-- the length along is the length, but for one. -/
theorem alen_b (y x h : Int) (h0 : 1 ≤ h) (h1 : h ≤ 2000000000) (hl : (h : Rat) * h ≤ (x : Rat) * x + (y : Rat) * y) (hu : (x : Rat) * x + (y : Rat) * y ≤ ((h : Rat) + 1) * ((h : Rat) + 1)) :
    -1 ≤ (x : Rat) * CC (adiff 0 (at2 y x)) + (y : Rat) * SS (adiff 0 (at2 y x)) - h ∧ (x : Rat) * CC (adiff 0 (at2 y x)) + (y : Rat) * SS (adiff 0 (at2 y x)) - h ≤ 1 := by
  have H0 : (1 : Rat) ≤ h := by have := rle2 h0; simpa using this
  have H1 : (h : Rat) ≤ 2000000000 := by have := rle2 h1; simpa using this
  obtain ⟨⟨q1, q2⟩, p0, p1⟩ := dir_b y x ((h : Rat) + 1) (by grind) hu
  have hl2 := dir_len (x : Rat) (y : Rat) _ _ (CS_unit (adiff 0 (at2 y x)))
  generalize (x : Rat) * CC (adiff 0 (at2 y x)) + (y : Rat) * SS (adiff 0 (at2 y x)) = p at *
  generalize (y : Rat) * CC (adiff 0 (at2 y x)) - (x : Rat) * SS (adiff 0 (at2 y x)) = q at *
  generalize (h : Rat) = H at *
  refine ⟨?_, by grind⟩
  refine Classical.byContradiction fun hc => ?_
  have k := mulab (a := q) (b := q) (A := 52/1000000000 * (H + 1)) (B := 52/1000000000 * (H + 1)) (by grind) (by grind) (by grind) (by grind)
  have e : 52/1000000000 * (H + 1) * (52/1000000000 * (H + 1)) = 2704/1000000000000000000 * ((H + 1) * (H + 1)) := by grind
  rw [e] at k
  have k2 := Rat.mul_nonneg (a := H + 1) (b := 2000000001 - (H + 1)) (by grind) (by grind)
  have k3 := Rat.mul_nonneg (a := H - 1 - p) (b := H - 1 + p) (by grind) (by grind)
  have k4 := rsq q
  grind
/-- the components of a vector to the east, to the north and along the exact direction of a position. -/
def cE (b : Int) (X Y : Rat) : Rat := Y * CC b - X * SS b
def cH (b : Int) (X Y : Rat) : Rat := X * CC b + Y * SS b
def cN (a b : Int) (X Y Z : Rat) : Rat := Z * CC a - cH b X Y * SS a
def cU (a b : Int) (X Y Z : Rat) : Rat := cH b X Y * CC a + Z * SS a
theorem posn_dir (x y z : Int) (bx : -1342177280 ≤ x ∧ x ≤ 1342177280) (bY : -1342177280 ≤ y ∧ y ≤ 1342177280) (bz : -1342177280 ≤ z ∧ z ≤ 1342177280) (hne : ¬ (x = 0 ∧ y = 0 ∧ z = 0)) (R : Rat) (r0 : 0 ≤ R)
    (hR : (x : Rat) * x + (y : Rat) * y + (z : Rat) * z ≤ R * R) :
    ∃ a b, posn x y z = (a, b, 0) ∧ vd a b = true ∧ (-(5493/100 * R) ≤ 1073741824 * cE b x y ∧ 1073741824 * cE b x y ≤ 5493/100 * R) ∧
      (-(5493/100 * R + 1073741824) ≤ 1073741824 * cN a b x y z ∧ 1073741824 * cN a b x y z ≤ 5493/100 * R + 1073741824) ∧ -1 ≤ cU a b x y z := by
  have hv := posn_valid x y z
  have hnn := mul_nnsq x
  have hnm := mul_nnsq y
  have hz := mul_nnsq z
  have px := pb 1801439850948198400 bx bx (by omega) (by decide)
  have py := pb 1801439850948198400 bY bY (by omega) (by decide)
  have hi := isq_ok (n := x * x + y * y) (by omega) (by omega)
  have hh : (hy x y).1 = isq (x * x + y * y) := by
    unfold hy
    rw [if_pos (show fits y x = true from decide_eq_true ⟨by omega, by omega⟩)]
  have e : posn x y z = (adiff 0 (a2 z (isq (x * x + y * y))).1, adiff 0 (a2 y x).1, 0) := by
    unfold posn
    rw [hh, if_neg]
    simp only [Bool.or_eq_true, decide_eq_true_eq]
    unfold big
    simp only [Bool.or_eq_true, decide_eq_true_eq]
    omega
  rw [e] at hv
  refine ⟨_, _, e, hv, ?_⟩
  clear e hv hh
  have hb : isq (x * x + y * y) ≤ 2000000000 := by
    refine Classical.byContradiction fun hc => ?_
    have := sq_le (a := 2000000001) (b := isq (x * x + y * y)) (by omega) (by omega)
    omega
  generalize hq : isq (x * x + y * y) = h at *
  obtain ⟨i0, _, i1, i2⟩ := hi
  have ea : (a2 z h).1 = at2 z h := by
    unfold a2
    rw [if_pos (show fits z h = true from decide_eq_true ⟨by omega, by omega⟩), if_neg]
    rintro ⟨hz0, hh0⟩
    subst hh0
    have x0 : x * x = 0 ∧ y * y = 0 := by omega
    have a := Int.mul_eq_zero.1 x0.1
    have b := Int.mul_eq_zero.1 x0.2
    exact hne ⟨by omega, by omega, hz0⟩
  rw [ea]
  have r1 := rle2 i1
  have r2 := rle2 (Int.le_of_lt i2)
  simp only [Rat.intCast_mul, Rat.intCast_add, Rat.intCast_ofNat] at r1 r2
  have H0 : (0 : Rat) ≤ h := by have := rle2 i0; simpa using this
  have zz := rsq (z : Rat)
  have d1 := dir_b z h R r0 (by grind)
  have ⟨⟨c1, c2⟩, s1, s2⟩ := CS_1 (adiff 0 (at2 z h))
  -- the length along
  have key : (-(5493/100 * R) ≤ 1073741824 * cE (adiff 0 (a2 y x).1) x y ∧ 1073741824 * cE (adiff 0 (a2 y x).1) x y ≤ 5493/100 * R) ∧ -1 ≤ cH (adiff 0 (a2 y x).1) x y - h ∧ cH (adiff 0 (a2 y x).1) x y - h ≤ 1 := by
    by_cases h1 : 1 ≤ h
    · have e2 : (a2 y x).1 = at2 y x := by
        unfold a2
        rw [if_pos (show fits y x = true from decide_eq_true ⟨by omega, by omega⟩), if_neg]
        rintro ⟨hy0, hx0⟩
        subst hy0 hx0
        have := sq_le (a := 1) (b := h) (by omega) h1
        omega
      rw [e2]
      have d2 := dir_b y x R r0 (by grind)
      have al := alen_b y x h h1 hb (by grind) (by grind)
      unfold cE cH
      exact ⟨d2.1, al⟩
    · have h00 : h = 0 := by omega
      subst h00
      have x0 : x * x = 0 ∧ y * y = 0 := by omega
      have a := Int.mul_eq_zero.1 x0.1
      have b := Int.mul_eq_zero.1 x0.2
      have xz : x = 0 := by omega
      have yz : y = 0 := by omega
      subst xz yz
      unfold cE cH
      have c0 : ((0 : Int) : Rat) = 0 := rfl
      rw [c0]
      refine ⟨⟨?_, ?_⟩, ?_, ?_⟩ <;> grind
  obtain ⟨k1, k2, k3⟩ := key
  refine ⟨k1, ?_, ?_⟩
  · have m1 := mulab (a := cH (adiff 0 (a2 y x).1) x y - h) (b := SS (adiff 0 (at2 z h))) (A := 1) (B := 1) k2 k3 s1 s2
    have e3 : cN (adiff 0 (at2 z h)) (adiff 0 (a2 y x).1) x y z = ((z : Rat) * CC (adiff 0 (at2 z h)) - (h : Rat) * SS (adiff 0 (at2 z h))) - (cH (adiff 0 (a2 y x).1) x y - h) * SS (adiff 0 (at2 z h)) := by unfold cN; grind
    rw [e3]
    obtain ⟨⟨d2, d3⟩, _, _⟩ := d1
    generalize (cH (adiff 0 (a2 y x).1) x y - h) * SS (adiff 0 (at2 z h)) = T at *
    generalize (z : Rat) * CC (adiff 0 (at2 z h)) - (h : Rat) * SS (adiff 0 (at2 z h)) = Q at *
    constructor <;> grind
  · have m1 := mulab (a := cH (adiff 0 (a2 y x).1) x y - h) (b := CC (adiff 0 (at2 z h))) (A := 1) (B := 1) k2 k3 c1 c2
    have e3 : cU (adiff 0 (at2 z h)) (adiff 0 (a2 y x).1) x y z = ((h : Rat) * CC (adiff 0 (at2 z h)) + (z : Rat) * SS (adiff 0 (at2 z h))) + (cH (adiff 0 (a2 y x).1) x y - h) * CC (adiff 0 (at2 z h)) := by unfold cU; grind
    rw [e3]
    obtain ⟨_, d4, d5⟩ := d1
    generalize (cH (adiff 0 (a2 y x).1) x y - h) * CC (adiff 0 (at2 z h)) = T at *
    grind
theorem rd_r (x : Int) : -(1/2 : Rat) ≤ (rd x : Rat) - (x : Rat) / 1073741824 ∧ (rd x : Rat) - (x : Rat) / 1073741824 ≤ 1/2 := by
  have h : 1073741824 * rd x ≤ x + 536870912 ∧ x - 536870912 ≤ 1073741824 * rd x := by unfold rd; omega
  have a := rle2 h.1
  have b := rle2 h.2
  simp only [Rat.intCast_mul, Rat.intCast_add, Rat.intCast_sub, Rat.intCast_ofNat] at a b
  constructor <;> grind
/-- a product of two of the program's sines and cosines, rounded. -/
theorem prod_r {x y : Int} {X Y : Rat} (x0 : -1073741824 ≤ x) (x1 : x ≤ 1073741824) (h1 : -2 ≤ (x : Rat) - 1073741824 * X) (h2 : (x : Rat) - 1073741824 * X ≤ 2) (h3 : -2 ≤ (y : Rat) - 1073741824 * Y) (h4 : (y : Rat) - 1073741824 * Y ≤ 2) (y0 : -1 ≤ Y) (y1 : Y ≤ 1) :
    -(9/2 : Rat) ≤ (rd (x * y) : Rat) - 1073741824 * (X * Y) ∧ (rd (x * y) : Rat) - 1073741824 * (X * Y) ≤ 9/2 := by
  have r := rd_r (x * y)
  have a := rle2 x0
  have b := rle2 x1
  simp only [Rat.intCast_mul, Rat.intCast_neg, Rat.intCast_ofNat] at r a b
  generalize ((rd (x * y) : Int) : Rat) = R at *
  generalize (x : Rat) = x' at *
  generalize (y : Rat) = y' at *
  have k1 := mulab (a := x') (b := y' - 1073741824 * Y) (A := 1073741824) (B := 2) a b h3 h4
  have k2 := mulab (a := x' - 1073741824 * X) (b := Y) (A := 2) (B := 1) h1 h2 y0 y1
  have e : x' * y' / 1073741824 = x' * (y' - 1073741824 * Y) / 1073741824 + (x' - 1073741824 * X) * Y + 1073741824 * (X * Y) := by grind
  rw [e] at r
  generalize x' * (y' - 1073741824 * Y) = T1 at *
  generalize (x' - 1073741824 * X) * Y = T2 at *
  constructor <;> grind
theorem of_near {c d : Int} (hv : vd c d = true) :
    (-(9/2 : Rat) ≤ (rd (cn c * cn d) : Rat) - 1073741824 * (CC c * CC d) ∧ (rd (cn c * cn d) : Rat) - 1073741824 * (CC c * CC d) ≤ 9/2) ∧
    (-(9/2 : Rat) ≤ (rd (cn c * sn d) : Rat) - 1073741824 * (CC c * SS d) ∧ (rd (cn c * sn d) : Rat) - 1073741824 * (CC c * SS d) ≤ 9/2) ∧
    (-2 ≤ (sn c : Rat) - 1073741824 * SS c ∧ (sn c : Rat) - 1073741824 * SS c ≤ 2) := by
  have ⟨v1, v2⟩ := vd_of hv
  obtain ⟨⟨a1, a2⟩, a3, a4⟩ := nr_all (a := c) (by omega) (by omega)
  obtain ⟨⟨b1, b2⟩, b3, b4⟩ := nr_all (a := d) (by omega) (by omega)
  have hc := cn_b c
  have ⟨⟨c1, c2⟩, s1, s2⟩ := CS_1 d
  exact ⟨prod_r hc.1 hc.2 a3 a4 b3 b4 c1 c2, prod_r hc.1 hc.2 a3 a4 b1 b2 s1 s2, a1, a2⟩
/-- the cross product with the exact direction. -/
theorem cross_exact (a b : Int) (X Y Z : Rat) : Y * SS a - Z * (CC a * SS b) = -(SS b * cN a b X Y Z) + CC b * SS a * cE b X Y ∧ Z * (CC a * CC b) - X * SS a = CC b * cN a b X Y Z + SS b * SS a * cE b X Y ∧ X * (CC a * SS b) - Y * (CC a * CC b) = -(CC a * cE b X Y) := by
  have h := CS_unit b
  have hx : X = CC b * cH b X Y - SS b * cE b X Y := by unfold cH cE; have : CC b * (X * CC b + Y * SS b) - SS b * (Y * CC b - X * SS b) = X * (CC b * CC b + SS b * SS b) := by grind
                                                        rw [this, h]; grind
  have hy : Y = SS b * cH b X Y + CC b * cE b X Y := by unfold cH cE; have : SS b * (X * CC b + Y * SS b) + CC b * (Y * CC b - X * SS b) = Y * (CC b * CC b + SS b * SS b) := by grind
                                                        rw [this, h]; grind
  have e1 : cN a b X Y Z = Z * CC a - cH b X Y * SS a := rfl
  rw [e1]
  generalize cH b X Y = p at *
  generalize cE b X Y = q at *
  subst hx hy
  generalize CC a = C at *
  generalize SS a = S at *
  generalize CC b = c at *
  generalize SS b = s at *
  refine ⟨by grind, by grind, ?_⟩
  have : (c * p - s * q) * (C * s) - (s * p + c * q) * (C * c) = -(C * q) * (c * c + s * s) := by grind
  rw [this, h]; grind
theorem ile {a b : Int} (h : (a : Rat) ≤ (b : Rat)) : a ≤ b := Rat.intCast_le_intCast.1 h
/-- one component of the cross product with a position's vector. -/
theorem cross_comp {y z Y2 Z2 : Int} {V W T A δ1 δ2 : Rat} (hy : One1 y) (hz : One1 z) (k1 : -δ1 ≤ (Z2 : Rat) - 1073741824 * V ∧ (Z2 : Rat) - 1073741824 * V ≤ δ1) (k2 : -δ2 ≤ (Y2 : Rat) - 1073741824 * W ∧ (Y2 : Rat) - 1073741824 * W ≤ δ2)
    (hT : (y : Rat) * V - (z : Rat) * W = T) (t1 : -A ≤ T) (t2 : T ≤ A) (hd : δ1 + δ2 ≤ 9) : -(1073741824 * (A + 9)) ≤ ((y * Z2 - z * Y2 : Int) : Rat) ∧ ((y * Z2 - z * Y2 : Int) : Rat) ≤ 1073741824 * (A + 9) := by
  have a := rle2 hy.1
  have b := rle2 hy.2
  have c := rle2 hz.1
  have d := rle2 hz.2
  simp only [Rat.intCast_mul, Rat.intCast_sub, Rat.intCast_neg, Rat.intCast_ofNat] at a b c d ⊢
  have p1 := mulab (a := (y : Rat)) (b := (Z2 : Rat) - 1073741824 * V) (A := 1073741824) (B := δ1) a b k1.1 k1.2
  have p2 := mulab (a := (z : Rat)) (b := (Y2 : Rat) - 1073741824 * W) (A := 1073741824) (B := δ2) c d k2.1 k2.2
  have e : (y : Rat) * Z2 - (z : Rat) * Y2 = 1073741824 * T + (y : Rat) * ((Z2 : Rat) - 1073741824 * V) - (z : Rat) * ((Y2 : Rat) - 1073741824 * W) := by rw [← hT]; grind
  rw [e]
  generalize (y : Rat) * ((Z2 : Rat) - 1073741824 * V) = P1 at *
  generalize (z : Rat) * ((Y2 : Rat) - 1073741824 * W) = P2 at *
  constructor <;> grind
/-- the cross product of a vector that lies near a position's direction with the position's vector. -/
theorem cross_close (x y z c d : Int) (hx : One1 x) (hy : One1 y) (hz : One1 z) (hv : vd c d = true) (A B : Rat) (e1 : -A ≤ cE d x y) (e2 : cE d x y ≤ A) (n1 : -B ≤ cN c d x y z) (n2 : cN c d x y z ≤ B) :
    (-(1073741824 * (A + B + 9)) ≤ ((y * sn c - z * rd (cn c * sn d) : Int) : Rat) ∧ ((y * sn c - z * rd (cn c * sn d) : Int) : Rat) ≤ 1073741824 * (A + B + 9)) ∧
    (-(1073741824 * (A + B + 9)) ≤ ((z * rd (cn c * cn d) - x * sn c : Int) : Rat) ∧ ((z * rd (cn c * cn d) - x * sn c : Int) : Rat) ≤ 1073741824 * (A + B + 9)) ∧
    (-(1073741824 * (A + B + 9)) ≤ ((x * rd (cn c * sn d) - y * rd (cn c * cn d) : Int) : Rat) ∧ ((x * rd (cn c * sn d) - y * rd (cn c * cn d) : Int) : Rat) ≤ 1073741824 * (A + B + 9)) := by
  have ⟨o1, o2, o3⟩ := of_near hv
  have ⟨f1, f2, f3⟩ := cross_exact c d (x : Rat) (y : Rat) (z : Rat)
  have ⟨⟨c1, c2⟩, s1, s2⟩ := CS_1 c
  have ⟨⟨c3, c4⟩, s3, s4⟩ := CS_1 d
  have A0 : 0 ≤ A := by grind
  have B0 : 0 ≤ B := by grind
  have g1 := mulab (a := SS d) (b := cN c d x y z) (A := 1) (B := B) s3 s4 n1 n2
  have g2 := mulab (a := CC d) (b := cN c d x y z) (A := 1) (B := B) c3 c4 n1 n2
  have g3 := mulab (a := CC c) (b := cE d x y) (A := 1) (B := A) c1 c2 e1 e2
  have w1 := mulab (a := CC d) (b := SS c) (A := 1) (B := 1) c3 c4 s1 s2
  have w2 := mulab (a := SS d) (b := SS c) (A := 1) (B := 1) s3 s4 s1 s2
  have g4 := mulab (a := CC d * SS c) (b := cE d x y) (A := 1) (B := A) (by grind) (by grind) e1 e2
  have g5 := mulab (a := SS d * SS c) (b := cE d x y) (A := 1) (B := A) (by grind) (by grind) e1 e2
  refine ⟨?_, ?_, ?_⟩
  · exact cross_comp hy hz (δ1 := 2) (δ2 := 9/2) o3 o2 f1 (by grind) (by grind) (by grind)
  · exact cross_comp hz hx (δ1 := 9/2) (δ2 := 2) o1 o3 f2 (by grind) (by grind) (by grind)
  · exact cross_comp hx hy (δ1 := 9/2) (δ2 := 9/2) o2 o1 f3 (by grind) (by grind) (by grind)
/-- a small cross product: the distance is small. -/
theorem at2_le (y x k : Int) (k0 : 0 ≤ k) (k1 : k < 16000000) (hy : 0 ≤ y) (hx : y ≤ x) (h : cn 0 * y < sn (k + 1) * x) : at2 y x ≤ k := by
  have iy : iabs y = y := by unfold iabs; rw [if_neg (by omega)]
  have ix : iabs x = x := by unfold iabs; rw [if_neg (by omega)]
  unfold at2
  rw [if_pos ⟨by omega, hy⟩]
  unfold atq
  rw [iy, ix, if_neg (by omega), show max x y = x by omega, show min x y = y by omega]
  refine Classical.byContradiction fun hc => ?_
  have b := ata_b x y
  have ho := ata_ok (m := x) hy
  have h1 := sn_mono (a := k + 1) (b := ata x y) (by omega) (by omega) (by omega)
  have h2 := cn_mono (a := 0) (b := ata x y) (by omega) (by omega) (by omega)
  have m1 : sn (k + 1) * x ≤ sn (ata x y) * x := Int.mul_le_mul_of_nonneg_right h1 (by omega)
  have m2 : cn (ata x y) * y ≤ cn 0 * y := Int.mul_le_mul_of_nonneg_right h2 hy
  omega
theorem rd_abs_le {W M : Int} (h0 : -(1073741824 * M) ≤ W) (h1 : W ≤ 1073741824 * M) : 0 ≤ rd (iabs W) ∧ rd (iabs W) ≤ M := by
  unfold rd iabs
  split <;> omega
/-- the distance of two positions whose vectors are near, when the cross product is small. -/
theorem dist_small (a b c d : Int) (h1 : vd a b = true) (h2 : vd c d = true) (M k : Int) (M0 : 0 ≤ M) (M1 : M ≤ 380) (k0 : 0 ≤ k) (k1 : k < 16000000) (hk : 2 * M < sn (k + 1) - 1)
    (w0 : -(1073741824 * M) ≤ rd (cn a * sn b) * sn c - sn a * rd (cn c * sn d) ∧ rd (cn a * sn b) * sn c - sn a * rd (cn c * sn d) ≤ 1073741824 * M)
    (w1 : -(1073741824 * M) ≤ sn a * rd (cn c * cn d) - rd (cn a * cn b) * sn c ∧ sn a * rd (cn c * cn d) - rd (cn a * cn b) * sn c ≤ 1073741824 * M)
    (w2 : -(1073741824 * M) ≤ rd (cn a * cn b) * rd (cn c * sn d) - rd (cn a * sn b) * rd (cn c * cn d) ∧ rd (cn a * cn b) * rd (cn c * sn d) - rd (cn a * sn b) * rd (cn c * cn d) ≤ 1073741824 * M)
    (hD : -576460752303423488 ≤ rd (cn a * cn b) * rd (cn c * cn d) + rd (cn a * sn b) * rd (cn c * sn d) + sn a * sn c) : dstv a b c d = (dv a b c d, 0) ∧ 0 ≤ dv a b c d ∧ dv a b c d ≤ k := by
  refine ⟨by unfold dstv; rw [h1, h2]; rfl, ?_⟩
  have u1 : Unit3 (rd (cn a * cn b)) (rd (cn a * sn b)) (sn a) := norm_b a b
  have u2 : Unit3 (rd (cn c * cn d)) (rd (cn c * sn d)) (sn c) := norm_b c d
  have L := lagrange (rd (cn a * cn b)) (rd (cn a * sn b)) (sn a) (rd (cn c * cn d)) (rd (cn c * sn d)) (sn c)
  have lo : (1152921504606846976 - 12884901888) * (1152921504606846976 - 12884901888) ≤ (rd (cn a * cn b) * rd (cn a * cn b) + rd (cn a * sn b) * rd (cn a * sn b) + sn a * sn a) * (rd (cn c * cn d) * rd (cn c * cn d) + rd (cn c * sn d) * rd (cn c * sn d) + sn c * sn c) := Int.mul_le_mul u1.1 u2.1 (by omega) (by have := u1.1; omega)
  obtain ⟨_, _, _, bD, s0, s1, _⟩ := dist_b u1 u2
  have hi := isq_small s0 s1
  unfold dv
  generalize (rd (cn a * cn b) * rd (cn a * cn b) + rd (cn a * sn b) * rd (cn a * sn b) + sn a * sn a) * (rd (cn c * cn d) * rd (cn c * cn d) + rd (cn c * sn d) * rd (cn c * sn d) + sn c * sn c) = NN at *
  generalize rd (cn a * sn b) * sn c - sn a * rd (cn c * sn d) = W0 at *
  generalize sn a * rd (cn c * cn d) - rd (cn a * cn b) * sn c = W1 at *
  generalize rd (cn a * cn b) * rd (cn c * sn d) - rd (cn a * sn b) * rd (cn c * cn d) = W2 at *
  generalize rd (cn a * cn b) * rd (cn c * cn d) + rd (cn a * sn b) * rd (cn c * sn d) + sn a * sn c = D at *
  have q0 := pb (p := W0) (q := W0) (A := 1073741824000) (B := 1073741824000) (1152921504606846976000000) (by omega) (by omega) (by omega) (by decide)
  have q1 := pb (p := W1) (q := W1) (A := 1073741824000) (B := 1073741824000) (1152921504606846976000000) (by omega) (by omega) (by omega) (by decide)
  have q2 := pb (p := W2) (q := W2) (A := 1073741824000) (B := 1073741824000) (1152921504606846976000000) (by omega) (by omega) (by omega) (by decide)
  have D1 : 1150000000000000000 ≤ D := by
    refine Classical.byContradiction fun hc => ?_
    have q3 := pb (p := D) (q := D) (A := 1150000000000000000) (B := 1150000000000000000) (1322500000000000000000000000000000000) (by omega) (by omega) (by omega) (by decide)
    omega
  have r0 := rd_abs_le w0.1 w0.2
  have r1 := rd_abs_le w1.1 w1.2
  have r2 := rd_abs_le w2.1 w2.2
  have p0 : rd (iabs W0) * rd (iabs W0) ≤ M * M := Int.mul_le_mul r0.2 r0.2 r0.1 M0
  have p1 : rd (iabs W1) * rd (iabs W1) ≤ M * M := Int.mul_le_mul r1.2 r1.2 r1.1 M0
  have p2 : rd (iabs W2) * rd (iabs W2) ≤ M * M := Int.mul_le_mul r2.2 r2.2 r2.1 M0
  have hm : isq (csum W0 W1 W2) ≤ 2 * M := by
    obtain ⟨k0, k3, k1, k2⟩ := isq_ok s0 (by omega)
    refine Classical.byContradiction fun hk => ?_
    have h5 := sq_le (a := 2 * M + 1) (b := isq (csum W0 W1 W2)) (by omega) (by omega)
    have e : (2 * M + 1) * (2 * M + 1) = 4 * (M * M) + 4 * M + 1 := by grind
    have mm := mul_nnsq M
    unfold csum at *
    omega
  have rD : 1071000000 ≤ rd D ∧ rd D ≤ 2147483647 := by unfold rd; omega
  unfold a2
  rw [if_pos (show fits (isq (csum W0 W1 W2)) (rd D) = true from decide_eq_true ⟨by omega, by omega⟩), if_neg (fun h => by omega)]
  refine ⟨(at2_b _ _).1, at2_le _ _ k k0 k1 hi.1 (by omega) ?_⟩
  rw [cn_0]
  have b1 := sn_b (k + 1)
  have m1 : (2 * M + 2) * 1071000000 ≤ sn (k + 1) * rd D := Int.mul_le_mul (by omega) rD.1 (by omega) (by omega)
  generalize sn (k + 1) * rd D = P at *
  generalize sn (k + 1) = s at *
  omega
end Go.Proofs.Ytmlacekgmdlfjaa
