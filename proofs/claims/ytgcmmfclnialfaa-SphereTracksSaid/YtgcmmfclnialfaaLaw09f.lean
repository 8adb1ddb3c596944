/- The law of chapter 9 on tracks: the estimate. -/
import Derived.Test.YtgcmmfclnialfaaRotX
import Derived.Test.YtgcmmfclnialfaaLaw09d
import Derived.Test.YtgcmmfclnialfaaSphT
import Derived.Test.YtgcmmfclnialfaaLaw09c
namespace Go.Proofs.Ytgcmmfclnialfaa
open Go.RowKit Go.Joins Fdk
set_option linter.unusedVariables false
theorem cross_split (a b t : Int) (x y z : Rat) : x * eX a b t + y * eY a b t + z * eZ a b t = cE b x y * CC t - cN a b x y z * SS t ∧ x * dX a b t + y * dY a b t + z * dZ a b t = cE b x y * SS t + cN a b x y z * CC t ∧ x * (CC a * CC b) + y * (CC a * SS b) + z * SS a = cU a b x y z := by
  unfold eX eY eZ dX dY dZ cE cN cU cH
  refine ⟨?_, ?_, ?_⟩ <;> grind
theorem e_orth (a b t : Int) : eX a b t * dX a b t + eY a b t * dY a b t + eZ a b t * dZ a b t = 0 ∧ eX a b t * (CC a * CC b) + eY a b t * (CC a * SS b) + eZ a b t * SS a = 0 := by
  have h1 := CS_unit a
  have h2 := CS_unit b
  unfold eX eY eZ dX dY dZ
  generalize CC a = A at *
  generalize SS a = B at *
  generalize CC b = C at *
  generalize SS b = D at *
  generalize CC t = E at *
  generalize SS t = F at *
  constructor
  · have e : (-D * E + B * C * F) * (-D * F + -(B * C) * E) + (C * E + B * D * F) * (C * F + -(B * D) * E) + -(A * F) * (0 * F + A * E) = E * F * ((C * C + D * D) - (B * B * (C * C + D * D) + A * A)) := by grind
    rw [e, h2]
    have : (1 : Rat) - (B * B * 1 + A * A) = 0 := by grind
    rw [this]; grind
  · have e : (-D * E + B * C * F) * (A * C) + (C * E + B * D * F) * (A * D) + -(A * F) * B = A * B * F * ((C * C + D * D) - 1) := by grind
    rw [e, h2]; grind
/-- the exact components of a position on a track. -/
theorem track_comp {a b t s : Int} {x y z e : Rat} (h : nrm (x - 1073741824 * xX a b t s) (y - 1073741824 * xY a b t s) (z - 1073741824 * xZ a b t s) e) :
    (-e ≤ cE b x y * CC t - cN a b x y z * SS t ∧ cE b x y * CC t - cN a b x y z * SS t ≤ e) ∧ (-e ≤ cE b x y * SS t + cN a b x y z * CC t - 1073741824 * SS s ∧ cE b x y * SS t + cN a b x y z * CC t - 1073741824 * SS s ≤ e) ∧ (-e ≤ cU a b x y z - 1073741824 * CC s ∧ cU a b x y z - 1073741824 * CC s ≤ e) := by
  have ⟨c1, c2, c3⟩ := cross_split a b t x y z
  have ⟨o1, o2⟩ := e_orth a b t
  have ud := unit_D a b t
  have uE := unit_e2 a b t
  have uU := unit_U a b
  have d1 := nrm_dot h (show nrm (eX a b t) (eY a b t) (eZ a b t) 1 from ⟨by grind, by rw [uE]; grind⟩)
  have d2 := nrm_dot h (show nrm (dX a b t) (dY a b t) (dZ a b t) 1 from ⟨by grind, by rw [ud.1]; grind⟩)
  have d3 := nrm_dot h (show nrm (CC a * CC b) (CC a * SS b) (SS a) 1 from ⟨by grind, by rw [uU]; grind⟩)
  rw [← c1, ← c2, ← c3]
  unfold xX xY xZ at *
  have h0 := ud.2
  have h1 := ud.1
  generalize CC a * CC b = U0 at *
  generalize CC a * SS b = U1 at *
  generalize SS a = U2 at *
  generalize dX a b t = D0 at *
  generalize dY a b t = D1 at *
  generalize dZ a b t = D2 at *
  generalize eX a b t = E0 at *
  generalize eY a b t = E1 at *
  generalize eZ a b t = E2 at *
  have f1 : (x - 1073741824 * (U0 * CC s + D0 * SS s)) * E0 + (y - 1073741824 * (U1 * CC s + D1 * SS s)) * E1 + (z - 1073741824 * (U2 * CC s + D2 * SS s)) * E2 = x * E0 + y * E1 + z * E2 - 1073741824 * CC s * (E0 * U0 + E1 * U1 + E2 * U2) - 1073741824 * SS s * (E0 * D0 + E1 * D1 + E2 * D2) := by grind
  have f2 : (x - 1073741824 * (U0 * CC s + D0 * SS s)) * D0 + (y - 1073741824 * (U1 * CC s + D1 * SS s)) * D1 + (z - 1073741824 * (U2 * CC s + D2 * SS s)) * D2 = x * D0 + y * D1 + z * D2 - 1073741824 * CC s * (U0 * D0 + U1 * D1 + U2 * D2) - 1073741824 * SS s * (D0 * D0 + D1 * D1 + D2 * D2) := by grind
  have f3 : (x - 1073741824 * (U0 * CC s + D0 * SS s)) * U0 + (y - 1073741824 * (U1 * CC s + D1 * SS s)) * U1 + (z - 1073741824 * (U2 * CC s + D2 * SS s)) * U2 = x * U0 + y * U1 + z * U2 - 1073741824 * CC s * (U0 * U0 + U1 * U1 + U2 * U2) - 1073741824 * SS s * (U0 * D0 + U1 * D1 + U2 * D2) := by grind
  rw [f1, o1, o2] at d1
  rw [f2, h0, h1] at d2
  rw [f3, h0, uU] at d3
  refine ⟨⟨?_, ?_⟩, ⟨?_, ?_⟩, ?_, ?_⟩ <;> grind
/-- two local components mixed by the program's sine and cosine. -/
theorem mix2 {u v s c : Int} {E N S C : Rat} (h1 : -(35/10) ≤ (u : Rat) - E ∧ (u : Rat) - E ≤ 35/10) (h2 : -(73/10) ≤ (v : Rat) - N ∧ (v : Rat) - N ≤ 73/10) (he : -1073741831 ≤ E ∧ E ≤ 1073741831) (hn : -1073741831 ≤ N ∧ N ≤ 1073741831)
    (s0 : -1073741824 ≤ s ∧ s ≤ 1073741824) (c0 : -1073741824 ≤ c ∧ c ≤ 1073741824) (hs : -2 ≤ (s : Rat) - 1073741824 * S ∧ (s : Rat) - 1073741824 * S ≤ 2) (hc : -2 ≤ (c : Rat) - 1073741824 * C ∧ (c : Rat) - 1073741824 * C ≤ 2) :
    (-(154/10) ≤ (rd (u * c - v * s) : Rat) - (E * C - N * S) ∧ (rd (u * c - v * s) : Rat) - (E * C - N * S) ≤ 154/10) ∧ (-(154/10) ≤ (rd (u * s + v * c) : Rat) - (E * S + N * C) ∧ (rd (u * s + v * c) : Rat) - (E * S + N * C) ≤ 154/10) := by
  have r1 := rd_r (u * c - v * s)
  have r2 := rd_r (u * s + v * c)
  simp only [Rat.intCast_mul, Rat.intCast_add, Rat.intCast_sub] at r1 r2
  have a1 := rle2 s0.1
  have a2 := rle2 s0.2
  have a3 := rle2 c0.1
  have a4 := rle2 c0.2
  simp only [Rat.intCast_neg, Rat.intCast_ofNat] at a1 a2 a3 a4
  generalize (rd (u * c - v * s) : Rat) = R1 at *
  generalize (rd (u * s + v * c) : Rat) = R2 at *
  generalize (u : Rat) = u at *
  generalize (v : Rat) = v at *
  generalize (s : Rat) = s at *
  generalize (c : Rat) = c at *
  have k1 := mulab (a := u - E) (b := c) (A := 35/10) (B := 1073741824) h1.1 h1.2 a3 a4
  have k2 := mulab (a := u - E) (b := s) (A := 35/10) (B := 1073741824) h1.1 h1.2 a1 a2
  have k3 := mulab (a := v - N) (b := c) (A := 73/10) (B := 1073741824) h2.1 h2.2 a3 a4
  have k4 := mulab (a := v - N) (b := s) (A := 73/10) (B := 1073741824) h2.1 h2.2 a1 a2
  have k5 := mulab (a := E) (b := c - 1073741824 * C) (A := 1073741831) (B := 2) he.1 he.2 hc.1 hc.2
  have k6 := mulab (a := E) (b := s - 1073741824 * S) (A := 1073741831) (B := 2) he.1 he.2 hs.1 hs.2
  have k7 := mulab (a := N) (b := c - 1073741824 * C) (A := 1073741831) (B := 2) hn.1 hn.2 hc.1 hc.2
  have k8 := mulab (a := N) (b := s - 1073741824 * S) (A := 1073741831) (B := 2) hn.1 hn.2 hs.1 hs.2
  have e1 : R1 - (E * C - N * S) = (R1 - (u * c - v * s) / 1073741824) + ((u - E) * c + E * (c - 1073741824 * C) - (v - N) * s - N * (s - 1073741824 * S)) / 1073741824 := by grind
  have e2 : R2 - (E * S + N * C) = (R2 - (u * s + v * c) / 1073741824) + ((u - E) * s + E * (s - 1073741824 * S) + (v - N) * c + N * (c - 1073741824 * C)) / 1073741824 := by grind
  rw [e1, e2]
  generalize R1 - (u * c - v * s) / 1073741824 = T1 at *
  generalize R2 - (u * s + v * c) / 1073741824 = T2 at *
  generalize (u - E) * c = T3 at *
  generalize (u - E) * s = T4 at *
  generalize (v - N) * c = T5 at *
  generalize (v - N) * s = T6 at *
  generalize E * (c - 1073741824 * C) = T7 at *
  generalize E * (s - 1073741824 * S) = T8 at *
  generalize N * (c - 1073741824 * C) = T9 at *
  generalize N * (s - 1073741824 * S) = T10 at *
  refine ⟨⟨?_, ?_⟩, ?_, ?_⟩ <;> grind
theorem sn_k5 : sn 5 = 261 := by decide +kernel
/-- a small number across a great one: the signed angle is small. -/
theorem off_small (y h : Int) (hh : 1073741500 ≤ h) (h1 : h ≤ 1073742200) (y0 : -140 ≤ y) (y1 : y ≤ 140) : -4 ≤ adiff 0 (at2 y h) ∧ adiff 0 (at2 y h) ≤ 4 := by
  have ht := adiff_b 0 (at2 y h)
  have hx := iabs_le h
  have hy := iabs_le y
  have hd := at2s_dir y h (by grind)
  have ⟨⟨c1, c2⟩, s1, s2⟩ := CS_1 (adiff 0 (at2 y h))
  generalize adiff 0 (at2 y h) = t at *
  have eh : (iabs h : Rat) = (h : Rat) := by congr 1; unfold iabs; rw [if_neg (by omega)]
  have ey := rle2 (show iabs y ≤ 140 by unfold iabs; split <;> omega)
  have H0 := rle2 hh
  have H1 := rle2 h1
  have Y0 := rle2 y0
  have Y1 := rle2 y1
  rw [eh] at hd hx
  simp only [Rat.intCast_neg, Rat.intCast_ofNat] at H0 H1 Y0 Y1 ey
  obtain ⟨⟨d1, d2⟩, d3⟩ := hd
  have k1 := mulab (a := (y : Rat)) (b := CC t) (A := 140) (B := 1) (by grind) (by grind) c1 c2
  have k2 := mulab (a := (y : Rat)) (b := SS t) (A := 140) (B := 1) (by grind) (by grind) s1 s2
  have k3 := Rat.mul_nonneg (a := (h : Rat)) (b := 1 - CC t) (by grind) (by grind)
  have k5 := mulab (a := 1073741824 - (h : Rat)) (b := CC t) (A := 400) (B := 1) (by grind) (by grind) c1 c2
  have k6 : -196 ≤ (h : Rat) * SS t ∧ (h : Rat) * SS t ≤ 196 := by
    generalize (y : Rat) * CC t = T1 at *
    generalize (y : Rat) * SS t = T2 at *
    have e3 : (h : Rat) * (1 - CC t) = (h : Rat) - (h : Rat) * CC t := by grind
    rw [e3] at k3
    generalize (h : Rat) * SS t = T3 at *
    generalize (h : Rat) * CC t = T4 at *
    constructor <;> grind
  have k7 : -(1/1000000) ≤ SS t ∧ SS t ≤ 1/1000000 := by
    generalize SS t = σ at *
    constructor
    · refine Classical.byContradiction fun hc => ?_
      have := Rat.mul_nonneg (a := (h : Rat) - 1000000000) (b := -σ) (by grind) (by grind)
      grind
    · refine Classical.byContradiction fun hc => ?_
      have := Rat.mul_nonneg (a := (h : Rat) - 1000000000) (b := σ) (by grind) (by grind)
      grind
  have k4 := mulab (a := 1073741824 - (h : Rat)) (b := SS t) (A := 400) (B := 1/1000000) (by grind) (by grind) k7.1 k7.2
  have e1 : (1073741824 - (h : Rat)) * SS t = 1073741824 * SS t - (h : Rat) * SS t := by grind
  have e2 : (1073741824 - (h : Rat)) * CC t = 1073741824 * CC t - (h : Rat) * CC t := by grind
  rw [e1] at k4
  rw [e2] at k5
  have z5 : ((sn (4 + 1) : Int) : Rat) = 261 := by rw [show (4 : Int) + 1 = 5 from rfl, sn_k5]; rfl
  generalize (y : Rat) * CC t = T1 at *
  generalize (y : Rat) * SS t = T2 at *
  generalize (h : Rat) * SS t = T3 at *
  generalize (h : Rat) * CC t = T4 at *
  exact small_ang (d := t) (k := 4) ⟨by omega, by omega⟩ (by omega) (by omega) 200 (by rw [z5]; grind) (by grind) (by grind) (by grind)
theorem a2_ok {y x : Int} (hy : -2147483647 ≤ y ∧ y ≤ 2147483647) (hx : -2147483647 ≤ x ∧ x ≤ 2147483647) (h : ¬ (y = 0 ∧ x = 0)) : (a2 y x).1 = at2 y x := by
  unfold a2
  rw [if_pos (show fits y x = true from decide_eq_true ⟨hy, hx⟩), if_neg h]
theorem tracks_plain (a b t s : Int) (hv : vd a b = true) (s0 : 0 ≤ s ∧ s ≤ 64799400) : ∃ c d, alv a b t s = (c, d, 0) ∧ ∃ o l, crv a b t c d = (o, l, 0) ∧ (-4 ≤ o ∧ o ≤ 4) ∧ (-6 ≤ l - s ∧ l - s ≤ 6) := by
  obtain ⟨c, d, p, hw, n⟩ := along_plain a b t s hv ⟨s0.1, by omega⟩
  refine ⟨c, d, p, ?_⟩
  have ⟨l1, l2, l3⟩ := loc_near hv hw
  obtain ⟨α, β, γ⟩ := track_comp n
  have nt := nr_all (a := t % 129600000) (by omega) (by omega)
  have hst := sn_b (t % 129600000)
  have hct := cn_b (t % 129600000)
  have qn := q_nrm hw
  have ci := comp_id a b (rd (cn c * cn d) : Rat) (rd (cn c * sn d) : Rat) (sn c : Rat)
  have hb := qn.2
  rw [← ci] at hb
  have hE := sq_le_r (a := cE b (rd (cn c * cn d) : Rat) (rd (cn c * sn d) : Rat)) (b := 1073741831) (by grind) (by have := rsq (cN a b (rd (cn c * cn d) : Rat) (rd (cn c * sn d) : Rat) (sn c : Rat)); have := rsq (cU a b (rd (cn c * cn d) : Rat) (rd (cn c * sn d) : Rat) (sn c : Rat)); grind)
  have hN := sq_le_r (a := cN a b (rd (cn c * cn d) : Rat) (rd (cn c * sn d) : Rat) (sn c : Rat)) (b := 1073741831) (by grind) (by have := rsq (cE b (rd (cn c * cn d) : Rat) (rd (cn c * sn d) : Rat)); have := rsq (cU a b (rd (cn c * cn d) : Rat) (rd (cn c * sn d) : Rat) (sn c : Rat)); grind)
  have ⟨m1, m2⟩ := mix2 l1 l2 hE hN hst hct nt.1 nt.2
  have hcr : crv a b t c d = cr3 (lx b c d) (ly a b c d) (lz a b c d) (t % 129600000) := by
    unfold crv cr3 crR crA
    rw [hv, hw, sn_mod, cn_mod]
    rfl
  rw [hcr]
  unfold cr3 crR crA
  generalize cE b (rd (cn c * cn d) : Rat) (rd (cn c * sn d) : Rat) = E at *
  generalize cN a b (rd (cn c * cn d) : Rat) (rd (cn c * sn d) : Rat) (sn c : Rat) = N at *
  generalize cU a b (rd (cn c * cn d) : Rat) (rd (cn c * sn d) : Rat) (sn c : Rat) = U at *
  generalize rd (lx b c d * cn (t % 129600000) - ly a b c d * sn (t % 129600000)) = R at *
  generalize rd (lx b c d * sn (t % 129600000) + ly a b c d * cn (t % 129600000)) = A at *
  generalize lz a b c d = L at *
  have us := CS_unit s
  have ⟨⟨cs1, cs2⟩, ss1, ss2⟩ := CS_1 s
  clear n nt hst hct qn ci hb hE hN l1 l2 hcr
  have hA : -134 ≤ (A : Rat) - 1073741824 * SS s ∧ (A : Rat) - 1073741824 * SS s ≤ 134 := by constructor <;> grind
  have hL : -125 ≤ (L : Rat) - 1073741824 * CC s ∧ (L : Rat) - 1073741824 * CC s ≤ 125 := by constructor <;> grind
  have hR : -140 ≤ (R : Rat) ∧ (R : Rat) ≤ 140 := by constructor <;> grind
  have iR : -140 ≤ R ∧ R ≤ 140 := by
    constructor
    · exact ile (by have z : ((-140 : Int) : Rat) = -140 := rfl; rw [z]; exact hR.1)
    · exact ile (by have z : ((140 : Int) : Rat) = 140 := rfl; rw [z]; exact hR.2)
  have bd : ∀ W : Int, -(1073742824 : Rat) ≤ W → (W : Rat) ≤ 1073742824 → -1073742824 ≤ W ∧ W ≤ 1073742824 := fun W h1 h2 => by
    constructor
    · exact ile (by have z : ((-1073742824 : Int) : Rat) = -1073742824 := rfl; rw [z]; exact h1)
    · exact ile (by have z : ((1073742824 : Int) : Rat) = 1073742824 := rfl; rw [z]; exact h2)
  have iA := bd A (by grind) (by grind)
  have iL := bd L (by grind) (by grind)
  clear bd m1 m2 α β γ l3
  have nA := mul_nnsq A
  have nL := mul_nnsq L
  have qA : A * A ≤ 1152923652090494976 + 1000000000 := Int.le_trans (mul_ab iA.1 iA.2 (by omega)).2 (by unfold iabs; split <;> omega)
  have qL : L * L ≤ 1152923652090494976 + 1000000000 := Int.le_trans (mul_ab iL.1 iL.2 (by omega)).2 (by unfold iabs; split <;> omega)
  have hi := isq_ok (n := A * A + L * L) (by omega) (by omega)
  have hh : (hy A L).1 = isq (A * A + L * L) := by
    unfold hy
    rw [if_pos (show fits L A = true from decide_eq_true ⟨by omega, by omega⟩)]
  rw [hh]
  obtain ⟨h0, _, h1, h2⟩ := hi
  generalize isq (A * A + L * L) = h at *
  have r1 := rle2 h1
  have r2 := rle2 (Int.le_of_lt h2)
  have r0 := rle2 h0
  have z0 : ((0 : Int) : Rat) = 0 := rfl
  have zz1 : ((1 : Int) : Rat) = 1 := rfl
  rw [z0] at r0
  simp only [Rat.intCast_mul, Rat.intCast_add, zz1] at r1 r2
  have up := sq2 (x := (A : Rat)) (y := (L : Rat)) (r := 134) (s := 125) (X := 1073741824 * SS s) (Y := 1073741824 * CC s) (R := 1073741824) (by grind) (by grind) hA hL
  have lo := sq2 (x := 1073741824 * SS s) (y := 1073741824 * CC s) (r := 134) (s := 125) (X := (A : Rat)) (Y := (L : Rat)) (R := (h : Rat) + 1) (by grind) (by grind) (by constructor <;> grind) (by constructor <;> grind)
  have hu : (h : Rat) ≤ 1073741824 + (134 + 125) := le_of_sq (by grind) (by grind)
  have hl : 1073741824 ≤ (h : Rat) + 1 + (134 + 125) := le_of_sq (by grind) (by grind)
  have ih : 1073741500 ≤ h ∧ h ≤ 1073742200 := by
    constructor
    · exact ile (by have z : ((1073741500 : Int) : Rat) = 1073741500 := rfl; rw [z]; grind)
    · exact ile (by have z : ((1073742200 : Int) : Rat) = 1073742200 := rfl; rw [z]; grind)
  have k7 : ((sn (6 + 1) : Int) : Rat) = 365 := by rw [show (6 : Int) + 1 = 7 from rfl, sn_k7]; rfl
  have o1 := a2_ok (y := R) (x := h) (by omega) (by omega) (by omega)
  have o2 := a2_ok (y := A) (x := L) (by omega) (by omega) (fun hc => by
    obtain ⟨ha, hb⟩ := hc
    subst ha hb
    have := sq_le (a := 1073741500) (b := h) (by omega) ih.1
    omega)
  refine ⟨_, _, rfl, ?_, ?_⟩
  · rw [o1]; exact off_small R h ih.1 ih.2 iR.1 iR.2
  · rw [o2]; exact ang_near2 A L s 6 s0 (by omega) (by omega) 125 134 (by grind) (by grind) hL.1 hL.2 hA.1 hA.2 (by rw [k7]; grind)
end Go.Proofs.Ytgcmmfclnialfaa
