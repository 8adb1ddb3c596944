/- The law of chapter 9 on courses and distances. -/
import Derived.Test.YtgcmmfclnialfaaRotW
import Derived.Test.YtgcmmfclnialfaaLaw09c
namespace Go.Proofs.Ytgcmmfclnialfaa
open Go.RowKit Go.Joins Fdk
set_option linter.unusedVariables false
theorem a2_eq {y x : Int} (h : (a2 y x).2 = 0) : (a2 y x).1 = at2 y x := by
  unfold a2 at h ⊢
  split
  · next h' =>
    rw [if_pos h'] at h
    split
    · next h'' => rw [if_pos h''] at h; exact absurd h (by decide)
    · rfl
  · next h' => rw [if_neg h'] at h; exact absurd h (by decide)
theorem returns_near {a b c d : Int} (hv : vd a b = true) (hw : vd c d = true) (hc : (a2 (lx b c d) (ly a b c d)).2 = 0) :
    (0 ≤ dv a b c d ∧ dv a b c d ≤ 64800000) ∧ ∃ l, 0 ≤ l ∧ l ≤ 1073751824 ∧
    nrm ((rd (cn c * cn d) : Rat) - l * xX a b (at2 (lx b c d) (ly a b c d)) (dv a b c d)) ((rd (cn c * sn d) : Rat) - l * xY a b (at2 (lx b c d) (ly a b c d)) (dv a b c d)) ((sn c : Rat) - l * xZ a b (at2 (lx b c d) (ly a b c d)) (dv a b c d)) 230 := by
  have u1 : Unit3 (rd (cn a * cn b)) (rd (cn a * sn b)) (sn a) := norm_b a b
  have u2 : Unit3 (rd (cn c * cn d)) (rd (cn c * sn d)) (sn c) := norm_b c d
  have hd := a2_eq (dist_ok u1 u2)
  have ⟨l1, l2, l3⟩ := loc_near hv hw
  have ⟨m1, m2, m3⟩ := cross_two hv hw
  have qn := q_nrm hw
  have ci := comp_id a b (rd (cn c * cn d) : Rat) (rd (cn c * sn d) : Rat) (sn c : Rat)
  have hlz : rd (rd (cn a * cn b) * rd (cn c * cn d) + rd (cn a * sn b) * rd (cn c * sn d) + sn a * sn c) = lz a b c d := rfl
  have hdv : dv a b c d = at2 (isq (csum (rd (cn a * sn b) * sn c - sn a * rd (cn c * sn d)) (sn a * rd (cn c * cn d) - rd (cn a * cn b) * sn c) (rd (cn a * cn b) * rd (cn c * sn d) - rd (cn a * sn b) * rd (cn c * cn d)))) (lz a b c d) := by unfold dv; rw [hd, hlz]
  generalize isq (csum (rd (cn a * sn b) * sn c - sn a * rd (cn c * sn d)) (sn a * rd (cn c * cn d) - rd (cn a * cn b) * sn c) (rd (cn a * cn b) * rd (cn c * sn d) - rd (cn a * sn b) * rd (cn c * cn d))) = m at *
  have M0 : (0 : Rat) ≤ m := by have := rle2 m3; simpa using this
  have hδ : 0 ≤ dv a b c d ∧ dv a b c d ≤ 64800000 := by
    rw [hdv]
    have h1 := at2_b m (lz a b c d)
    have h2 := atq_b m (lz a b c d)
    refine ⟨h1.1, ?_⟩
    unfold at2
    repeat' split
    all_goals omega
  refine ⟨hδ, ?_⟩
  have ex := expand a b (at2 (lx b c d) (ly a b c d)) (rd (cn c * cn d) : Rat) (rd (cn c * sn d) : Rat) (sn c : Rat)
  have hb := qn.2
  rw [← ci] at hb
  have st := CS_unit (at2 (lx b c d) (ly a b c d))
  have sδ := CS_unit (at2 m (lz a b c d))
  -- the course
  have hl := sq2 (x := (ly a b c d : Rat)) (y := (lx b c d : Rat)) (r := 73/10) (s := 35/10) (X := cN a b (rd (cn c * cn d) : Rat) (rd (cn c * sn d) : Rat) (sn c : Rat)) (Y := cE b (rd (cn c * cn d) : Rat) (rd (cn c * sn d) : Rat)) (R := 1073741831) (by have := rsq (cU a b (rd (cn c * cn d) : Rat) (rd (cn c * sn d) : Rat) (sn c : Rat)); grind) (by grind) l2 l1
  have w1 : (1073741831 + ((73 : Rat)/10 + 35/10)) * (1073741831 + (73/10 + 35/10)) ≤ 1073741850 * 1073741850 := by decide +kernel
  have du := dir_u (lx b c d) (ly a b c d) 1073741850 (by grind) (by grind)
  have core := returns_core (u := (lx b c d : Rat)) (v := (ly a b c d : Rat)) hb st sδ l1 l2 l3 ⟨du.1, du.2.1⟩ m1 m2 M0
  obtain ⟨α, β, hR⟩ := core
  have dd := dir_u m (lz a b c d) 1073742000 (by grind) hR
  rw [hdv]
  have ud := unit_D a b (at2 (lx b c d) (ly a b c d))
  have ue := unit_e2 a b (at2 (lx b c d) (ly a b c d))
  have uU := unit_U a b
  generalize at2 (lx b c d) (ly a b c d) = t at *
  generalize at2 m (lz a b c d) = δ at *
  generalize (rd (cn c * cn d) : Rat) = x at *
  generalize (rd (cn c * sn d) : Rat) = y at *
  generalize (sn c : Rat) = z at *
  refine ⟨(lz a b c d : Rat) * CC δ + (m : Rat) * SS δ, dd.2.1, by have := dd.2.2; grind, ?_⟩
  have nD : nrm (dX a b t) (dY a b t) (dZ a b t) 1 := ⟨by grind, by rw [ud.1]; grind⟩
  have nE : nrm (eX a b t) (eY a b t) (eZ a b t) 1 := ⟨by grind, by rw [ue]; grind⟩
  have nU : nrm (CC a * CC b) (CC a * SS b) (SS a) 1 := ⟨by grind, by rw [uU]; grind⟩
  have nX : nrm (CC δ * dX a b t - SS δ * (CC a * CC b)) (CC δ * dY a b t - SS δ * (CC a * SS b)) (CC δ * dZ a b t - SS δ * SS a) 1 := ⟨by grind, by
    have h0 := ud.2
    have h1 := ud.1
    generalize CC a * CC b = U0 at *
    generalize CC a * SS b = U1 at *
    generalize SS a = U2 at *
    generalize dX a b t = D0 at *
    generalize dY a b t = D1 at *
    generalize dZ a b t = D2 at *
    have e : (CC δ * D0 - SS δ * U0) * (CC δ * D0 - SS δ * U0) + (CC δ * D1 - SS δ * U1) * (CC δ * D1 - SS δ * U1) + (CC δ * D2 - SS δ * U2) * (CC δ * D2 - SS δ * U2) = CC δ * CC δ * (D0 * D0 + D1 * D1 + D2 * D2) + SS δ * SS δ * (U0 * U0 + U1 * U1 + U2 * U2) - 2 * (CC δ * SS δ) * (U0 * D0 + U1 * D1 + U2 * D2) := by grind
    rw [e, h0, h1, uU]; grind⟩
  have k1 := nrm_sc nE α.1 α.2
  have k2 := nrm_sc nD β.1 β.2
  have k3 := nrm_sc nU (k := cU a b x y z - (lz a b c d : Rat)) (κ := 73/10) (by grind) (by grind)
  have k4 := nrm_sc nX (k := (m : Rat) * CC δ - (lz a b c d : Rat) * SS δ) (κ := 55) (by have := dd.1.1; grind) (by have := dd.1.2; grind)
  have k5 := nrm_mono (nrm_add (nrm_add k1 k2) (nrm_add k3 k4)) (t := 230) (by grind)
  obtain ⟨e1, e2, e3⟩ := ex
  have g : ∀ w U0 D0 E0 : Rat, w = cU a b x y z * U0 + (cE b x y * SS t + cN a b x y z * CC t) * D0 + (cE b x y * CC t - cN a b x y z * SS t) * E0 → (cE b x y * CC t - cN a b x y z * SS t) * E0 + (cE b x y * SS t + cN a b x y z * CC t - (m : Rat)) * D0 + ((cU a b x y z - (lz a b c d : Rat)) * U0 + ((m : Rat) * CC δ - (lz a b c d : Rat) * SS δ) * (CC δ * D0 - SS δ * U0)) = w - ((lz a b c d : Rat) * CC δ + (m : Rat) * SS δ) * (U0 * CC δ + D0 * SS δ) := fun w U0 D0 E0 h => by
    rw [h]
    clear e1 e2 e3 k1 k2 k3 k4 k5 nD nE nU nX hb ci qn hl du dd hR ud ue uU m1 m2 l1 l2 l3 α β
    generalize cE b x y * CC t - cN a b x y z * SS t = A at *
    generalize cE b x y * SS t + cN a b x y z * CC t = B at *
    generalize cU a b x y z = W at *
    generalize (lz a b c d : Rat) = n at *
    generalize (m : Rat) = m' at *
    have e4 : m' = m' * (CC δ * CC δ + SS δ * SS δ) := by rw [sδ]; grind
    have e5 : n = n * (CC δ * CC δ + SS δ * SS δ) := by rw [sδ]; grind
    have e6 : A * E0 + (B - m') * D0 + ((W - n) * U0 + (m' * CC δ - n * SS δ) * (CC δ * D0 - SS δ * U0)) = A * E0 + B * D0 + W * U0 - m' * D0 - n * U0 + (m' * CC δ - n * SS δ) * (CC δ * D0 - SS δ * U0) := by grind
    rw [e6]
    have e7 : m' * D0 = m' * (CC δ * CC δ + SS δ * SS δ) * D0 := by rw [sδ]; grind
    have e8 : n * U0 = n * (CC δ * CC δ + SS δ * SS δ) * U0 := by rw [sδ]; grind
    rw [e7, e8]
    clear e4 e5 e6 e7 e8 sδ st
    grind
  have f1 := g x (CC a * CC b) (dX a b t) (eX a b t) e1
  have f2 := g y (CC a * SS b) (dY a b t) (eY a b t) e2
  have f3 := g z (SS a) (dZ a b t) (eZ a b t) e3
  rw [f1, f2, f3] at k5
  exact k5
end Go.Proofs.Ytgcmmfclnialfaa
