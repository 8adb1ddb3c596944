/- The ends of arcs are near: plain. Elements that meet are closed: the walk. Patterns and entries are closed: plain. A list of 5 elements that meet is closed. Patterns: the laws' walks. The arguments of a pattern: opened and shut. No condition. Procedure turns: the closure, and what is refused. Procedure turns in range: hold.Reversal. Procedure turns in range: flightdeckref26.Reversal. HoldReverses: the walk. -/
import Derived.Test.YtgabdnabcpdinaaHldO
import Derived.Test.YtgabdnabcpdinaaHldP
import Derived.Test.YtgabdnabcpdinaaHldW
import Derived.Test.YtgabdnabcpdinaaHldL
import Derived.Test.YtgabdnabcpdinaaSphA
import Derived.ProofKit
import Derived.OpenShut
import Derived.Deep.Strs
import Derived.Lib.SmallJoins
import Derived.Test.YtgabdnabcpdinaaHldF
import Derived.Test.YtgabdnabcpdinaaAwake26
namespace Go.Proofs.Ytgabdnabcpdinaa
open Go.RowKit Go.Joins Fdk
set_option linter.unusedVariables false
theorem qn_neg (p : Int) : -1 ≤ qnear (-p) 1073741824 + qnear p 1073741824 ∧ qnear (-p) 1073741824 + qnear p 1073741824 ≤ 1 := by
  unfold qnear; omega
theorem qn_two (p q : Int) (h : q = 2 * p) : -1 ≤ qnear q 1073741824 - 2 * qnear p 1073741824 ∧ qnear q 1073741824 - 2 * qnear p 1073741824 ≤ 1 := by
  unfold qnear; omega
/-- two points differ by at most 1. -/
structure Nr (p q s t : Int) : Prop where
  a : -1 ≤ p - s
  b : p - s ≤ 1
  c : -1 ≤ q - t
  d : q - t ≤ 1
theorem rayv_ok {a b c d p q : Int} (h : rayv a b c d = (p, q, 0)) : p = a + qnear (d * sn c) 1073741824 ∧ q = b + qnear (d * cn c) 1073741824 ∧ pvd p q = true := by
  unfold rayv at h
  split at h
  · split at h
    · simp at h
    · split at h
      · next h3 =>
        simp only [Prod.mk.injEq] at h
        obtain ⟨rfl, rfl, _⟩ := h
        exact ⟨rfl, rfl, h3⟩
      · simp at h
  · simp at h
theorem rayv_cs {a b c d : Int} (h : pvd a b = true) : (∃ p q, rayv a b c d = (p, q, 0)) ∨ rayv a b c d = (0, 0, 2) := by
  unfold rayv
  rw [if_pos h]
  split
  · exact .inr rfl
  · split
    · exact .inl ⟨_, _, rfl⟩
    · exact .inr rfl
/-- what an arc must be. -/
structure ArcOk (e : El) : Prop where
  v : avd e.cx e.cy e.r e.f e.s = true
  r1 : e.r ≤ 2000000
  s : e.s = 64800000 ∨ e.s = -64800000
  l : e.l = qnear (e.r * 64800000) 20626481
  n0 : ∀ p q, rayv e.cx e.cy e.f e.r = (p, q, 0) → Nr p q e.ax e.ay
  n1 : ∀ p q, rayv e.cx e.cy ((e.f + 64800000) % 129600000) e.r = (p, q, 0) → Nr p q e.bx e.b_
structure Clo (n : Nat) (x : Nat → El) (a b : Int) : Prop where
  n0 : 1 ≤ n
  n1 : n ≤ 5
  a0 : (x 0).ax = a
  a1 : (x 0).ay = b
  b0 : (x (n - 1)).bx = a
  b1 : (x (n - 1)).b_ = b
  g : ∀ i, i < n → (x i).g = false
  m : ∀ i, i + 1 < n → (x (i + 1)).ax = (x i).bx ∧ (x (i + 1)).ay = (x i).b_
  p : ∀ i, i < n → pvd (x i).ax (x i).ay = true ∧ pvd (x i).bx (x i).b_ = true
  c : ∀ i, i < n → (x i).cu = true → ArcOk (x i)
/-- an arc whose center lies in a direction from its begin. -/
theorem arc_ok {A B cx cy bx b_ r u k : Int} (hv : avd cx cy r ((u + 64800000) % 129600000) k = true) (r1 : r ≤ 2000000) (hk : k = 64800000 ∨ k = -64800000)
    (hx : cx = A + qnear (r * sn u) 1073741824) (hyy : cy = B + qnear (r * cn u) 1073741824)
    (hbx : bx = A + qnear (2 * r * sn u) 1073741824) (hby : b_ = B + qnear (2 * r * cn u) 1073741824) :
    ArcOk ⟨true, A, B, bx, b_, cx, cy, r, (u + 64800000) % 129600000, k, alen cx cy r ((u + 64800000) % 129600000) k, 0, false⟩ := by
  refine ⟨hv, r1, hk, ?_, ?_, ?_⟩
  · show alen _ _ _ _ _ = _
    unfold alen; rw [if_pos hv]
    rcases hk with rfl | rfl <;> rfl
  · intro p q h
    obtain ⟨e0, e1, _⟩ := rayv_ok h
    simp only [sn_mod, cn_mod, sn_half, cn_half, Int.mul_neg] at e0 e1
    have k0 := qn_neg (r * sn u)
    have k1 := qn_neg (r * cn u)
    show Nr p q A B
    generalize qnear (r * sn u) 1073741824 = X at *
    generalize qnear (r * cn u) 1073741824 = Y at *
    generalize qnear (-(r * sn u)) 1073741824 = X1 at *
    generalize qnear (-(r * cn u)) 1073741824 = Y1 at *
    clear h hv
    exact ⟨by omega, by omega, by omega, by omega⟩
  · intro p q h
    obtain ⟨e0, e1, _⟩ := rayv_ok h
    have es : sn (((u + 64800000) % 129600000 + 64800000) % 129600000) = sn u := sn_of (by omega)
    have ec : cn (((u + 64800000) % 129600000 + 64800000) % 129600000) = cn u := by rw [cn_mod, cn_half, cn_mod, cn_half, Int.neg_neg]
    simp only [es, ec] at e0 e1
    have k0 := qn_two (r * sn u) (2 * r * sn u) (by rw [Int.mul_assoc])
    have k1 := qn_two (r * cn u) (2 * r * cn u) (by rw [Int.mul_assoc])
    show Nr p q bx b_
    generalize qnear (r * sn u) 1073741824 = X at *
    generalize qnear (r * cn u) 1073741824 = Y at *
    generalize qnear (2 * r * sn u) 1073741824 = X1 at *
    generalize qnear (2 * r * cn u) 1073741824 = Y1 at *
    clear h hv es ec
    exact ⟨by omega, by omega, by omega, by omega⟩
/-- an arc whose center lies in a direction from its end. -/
theorem arc_ok' {A B cx cy bx b_ r u k : Int} (hv : avd cx cy r (u % 129600000) k = true) (r1 : r ≤ 2000000) (hk : k = 64800000 ∨ k = -64800000)
    (hx : cx = A + qnear (r * sn u) 1073741824) (hyy : cy = B + qnear (r * cn u) 1073741824)
    (hbx : bx = A + qnear (2 * r * sn u) 1073741824) (hby : b_ = B + qnear (2 * r * cn u) 1073741824) :
    ArcOk ⟨true, bx, b_, A, B, cx, cy, r, u % 129600000, k, alen cx cy r (u % 129600000) k, 0, false⟩ := by
  refine ⟨hv, r1, hk, ?_, ?_, ?_⟩
  · show alen _ _ _ _ _ = _
    unfold alen; rw [if_pos hv]
    rcases hk with rfl | rfl <;> rfl
  · intro p q h
    obtain ⟨e0, e1, _⟩ := rayv_ok h
    simp only [sn_mod, cn_mod] at e0 e1
    have k0 := qn_two (r * sn u) (2 * r * sn u) (by rw [Int.mul_assoc])
    have k1 := qn_two (r * cn u) (2 * r * cn u) (by rw [Int.mul_assoc])
    show Nr p q bx b_
    generalize qnear (r * sn u) 1073741824 = X at *
    generalize qnear (r * cn u) 1073741824 = Y at *
    generalize qnear (2 * r * sn u) 1073741824 = X1 at *
    generalize qnear (2 * r * cn u) 1073741824 = Y1 at *
    clear h hv
    exact ⟨by omega, by omega, by omega, by omega⟩
  · intro p q h
    obtain ⟨e0, e1, _⟩ := rayv_ok h
    have es : sn ((u % 129600000 + 64800000) % 129600000) = - sn u := by rw [sn_mod, sn_half, sn_mod]
    have ec : cn ((u % 129600000 + 64800000) % 129600000) = - cn u := by rw [cn_mod, cn_half, cn_mod]
    simp only [es, ec, Int.mul_neg] at e0 e1
    have k0 := qn_neg (r * sn u)
    have k1 := qn_neg (r * cn u)
    show Nr p q A B
    generalize qnear (r * sn u) 1073741824 = X at *
    generalize qnear (r * cn u) 1073741824 = Y at *
    generalize qnear (-(r * sn u)) 1073741824 = X1 at *
    generalize qnear (-(r * cn u)) 1073741824 = Y1 at *
    clear h hv es ec
    exact ⟨by omega, by omega, by omega, by omega⟩
open Go.RowKit Go.Joins Fdk
set_option linter.unusedVariables false
set_option maxHeartbeats 4000000 in
theorem near_any (p q s t : Int) (w : World) (h : Nr p q s t) (hp : pvd p q = true) (hs : pvd s t = true) :
    Calls Try.prog 32 #[ptV p q, ptV s t] w fun e w' => e = .returned (.bool true) ∧ Below w.heap.size w w' := by
  obtain ⟨⟨p0, p1⟩, q0, q1⟩ := pvd_of hp
  obtain ⟨⟨s0, s1⟩, t0, t1⟩ := pvd_of hs
  obtain ⟨ha, hb, hc, hd⟩ := h
  have e0 : IntKind.i64.wrap (p - s) = p - s := IntWalk.i64_in _ (by omega)
  have e1 : IntKind.i64.wrap (s - p) = s - p := IntWalk.i64_in _ (by omega)
  have e2 : IntKind.i64.wrap (q - t) = q - t := IntWalk.i64_in _ (by omega)
  have e3 : IntKind.i64.wrap (t - q) = t - q := IntWalk.i64_in _ (by omega)
  have g0 : p - s ≤ 8 := by omega
  have g1 : s - p ≤ 8 := by omega
  have g2 : q - t ≤ 8 := by omega
  have g3 : t - q ≤ 8 := by omega
  clear ha hb hc hd hp hs p0 p1 q0 q1 s0 s1 t0 t1
  have T := (c2_new w (.int .i64 p) (.int .i64 q) 30).alc (.cells #[.int .i64 s, .int .i64 t] 30)
  have Z := c2_new (w.alloc (.cells #[.int .i64 p, .int .i64 q] 30)) (.int .i64 s) (.int .i64 t) 30
  rw [show (w.alloc (.cells #[.int .i64 p, .int .i64 q] 30)).heap.size = w.heap.size + 1 by simp] at Z
  obtain ⟨t0, t1, t2, t3, tl⟩ := id T
  obtain ⟨z0, z1, z2, z3, zl⟩ := id Z
  go_enter Try.func32, Try.ntmps32
  go_wp2
  go_ret
  exact ⟨rfl, below_alloc2 w _ _⟩
/-- both ends of an arc, as turn.At tells them. -/
theorem tat_0 (e : El) (h : ArcOk e) : ∃ d, ∀ w, Calls Try.prog 31 #[arcV e.cx e.cy e.r e.f e.s, .int .i64 0] w fun z w' => z = .returned (.tuple #[ptV (rayv e.cx e.cy e.f e.r).1 (rayv e.cx e.cy e.f e.r).2.1, .int .i64 d, .int .i64 (rayv e.cx e.cy e.f e.r).2.2]) ∧ Below w.heap.size w w' := by
  have v := h.v
  obtain ⟨v0, ⟨v1, _⟩, ⟨v2, v3⟩, _⟩ := avd_of v
  have nb := len_b v1 h.r1
  rcases h.s with hs | hs <;> rw [hs] at v ⊢
  · have hg : (e.f + 0) % 129600000 = e.f := by omega
    rcases rayv_cs (c := e.f) (d := e.r) v0 with ⟨p, q, hX⟩ | hX <;> rw [hX]
    · exact ⟨_, fun w => tat_p00 _ _ _ _ _ _ p q w v rfl nb.1 nb.2 hg hX⟩
    · exact ⟨_, fun w => tat_p02 _ _ _ _ _ _ 0 0 w v rfl nb.1 nb.2 hg hX⟩
  · have hg : (e.f + 0) % 129600000 = e.f := by omega
    rcases rayv_cs (c := e.f) (d := e.r) v0 with ⟨p, q, hX⟩ | hX <;> rw [hX]
    · exact ⟨_, fun w => tat_n00 _ _ _ _ _ _ p q w v rfl nb.1 nb.2 hg hX⟩
    · exact ⟨_, fun w => tat_n02 _ _ _ _ _ _ 0 0 w v rfl nb.1 nb.2 hg hX⟩
theorem tat_1 (e : El) (h : ArcOk e) : ∃ d, ∀ w, Calls Try.prog 31 #[arcV e.cx e.cy e.r e.f e.s, .int .i64 e.l] w fun z w' => z = .returned (.tuple #[ptV (rayv e.cx e.cy ((e.f + 64800000) % 129600000) e.r).1 (rayv e.cx e.cy ((e.f + 64800000) % 129600000) e.r).2.1, .int .i64 d, .int .i64 (rayv e.cx e.cy ((e.f + 64800000) % 129600000) e.r).2.2]) ∧ Below w.heap.size w w' := by
  have v := h.v
  obtain ⟨v0, ⟨v1, _⟩, ⟨v2, v3⟩, _⟩ := avd_of v
  have nb := len_b v1 h.r1
  have hl := h.l
  rcases h.s with hs | hs <;> rw [hs] at v ⊢ <;> rw [hl]
  · rcases rayv_cs (c := (e.f + 64800000) % 129600000) (d := e.r) v0 with ⟨p, q, hX⟩ | hX <;> rw [hX]
    · exact ⟨_, fun w => tat_p10 _ _ _ _ _ _ p q w v rfl nb.1 nb.2 rfl hX⟩
    · exact ⟨_, fun w => tat_p12 _ _ _ _ _ _ 0 0 w v rfl nb.1 nb.2 rfl hX⟩
  · have hg : (e.f + -64800000) % 129600000 = (e.f + 64800000) % 129600000 := by omega
    rcases rayv_cs (c := (e.f + 64800000) % 129600000) (d := e.r) v0 with ⟨p, q, hX⟩ | hX <;> rw [hX]
    · exact ⟨_, fun w => tat_n10 _ _ _ _ _ _ p q w v rfl nb.1 nb.2 hg hX⟩
    · exact ⟨_, fun w => tat_n12 _ _ _ _ _ _ 0 0 w v rfl nb.1 nb.2 hg hX⟩

theorem ElsAt.alc {w : World} {b n : Nat} {x : Nat → El} (h : ElsAt w b n x) (o : Obj) : ElsAt (w.alloc o) b n x := h.next (below_alloc1 w o)
/-- two cells of an old block. -/
structure Pv (w : World) (p q : Addr) (x y : Value) : Prop where
  a : w.cell? p = some x
  b : w.cell? q = some y
  l : p.block < w.heap.size ∧ q.block < w.heap.size
theorem Pv.alc {w : World} {p q : Addr} {x y : Value} (h : Pv w p q x y) (o : Obj) : (w.alloc o).cell? p = some x ∧ (w.alloc o).cell? q = some y :=
  ⟨((below_alloc1 w o).cell h.l.1).trans h.a, ((below_alloc1 w o).cell h.l.2).trans h.b⟩
/-- an arc's ends, told by turn.At, with the error's cases. -/
inductive AtEnd (y : El) (ax ay : Int) (R : Int × Int × Int) : Prop
  | ok (p q : Int) (h : R = (p, q, 0)) (n : Nr p q ax ay) (v : pvd p q = true) : AtEnd y ax ay R
  | no (h : R = (0, 0, 2)) : AtEnd y ax ay R
theorem atend0 {y : El} (h : ArcOk y) : AtEnd y y.ax y.ay (rayv y.cx y.cy y.f y.r) := by
  rcases rayv_cs (c := y.f) (d := y.r) (avd_of h.v).1 with ⟨p, q, hX⟩ | hX
  · exact .ok p q hX (h.n0 p q hX) (rayv_ok hX).2.2
  · exact .no hX
theorem atend1 {y : El} (h : ArcOk y) : AtEnd y y.bx y.b_ (rayv y.cx y.cy ((y.f + 64800000) % 129600000) y.r) := by
  rcases rayv_cs (c := (y.f + 64800000) % 129600000) (d := y.r) (avd_of h.v).1 with ⟨p, q, hX⟩ | hX
  · exact .ok p q hX (h.n1 p q hX) (rayv_ok hX).2.2
  · exact .no hX
open Go.RowKit Go.Joins Fdk
set_option linter.unusedVariables false
structure ShOk (S : Sh) (a b r : Int) : Prop where
  a0 : S.p0x = a
  b0 : S.p0y = b
  v0 : pvd S.p0x S.p0y = true
  v1 : pvd S.p1x S.p1y = true
  v2 : pvd S.p2x S.p2y = true
  v3 : pvd S.p3x S.p3y = true
  w1 : pvd S.c1x S.c1y = true
  w2 : pvd S.c2x S.c2y = true
  c1x : S.c1x = S.p0x + qnear (r * sn S.u) 1073741824
  c1y : S.c1y = S.p0y + qnear (r * cn S.u) 1073741824
  q1x : S.p1x = S.p0x + qnear (2 * r * sn S.u) 1073741824
  q1y : S.p1y = S.p0y + qnear (2 * r * cn S.u) 1073741824
  c2x : S.c2x = S.p3x + qnear (r * sn S.u) 1073741824
  c2y : S.c2y = S.p3y + qnear (r * cn S.u) 1073741824
  q2x : S.p2x = S.p3x + qnear (2 * r * sn S.u) 1073741824
  q2y : S.p2y = S.p3y + qnear (2 * r * cn S.u) 1073741824
  s : S.s = 64800000 ∨ S.s = -64800000
  r0 : 1 ≤ r
  r1 : r ≤ 2000000
theorem ray_z {a b c d : Int} (h : ((rayv a b c d).2.2 == 0) = true) : ∃ p q, rayv a b c d = (p, q, 0) := by
  rcases hX : rayv a b c d with ⟨p, q, e⟩
  rw [hX] at h
  have : e = 0 := by simpa using h
  exact ⟨p, q, by rw [this]⟩
theorem sh_okd {a b i k l r : Int} (h : her a b i k l r = 0) : ShOk (shOf a b i k l r) a b r := by
  obtain ⟨h1, h2, h3, h4⟩ := her_ok h
  obtain ⟨_, _, hr⟩ := rng_of h3
  unfold hsg at h4
  simp only [Bool.and_eq_true, Bool.true_and] at h4
  obtain ⟨⟨⟨g1, g2⟩, g3⟩, g4, g5⟩ := h4
  obtain ⟨x1, y1, E1⟩ := ray_z g1
  obtain ⟨x2, y2, E2⟩ := ray_z g2
  obtain ⟨x3, y3, E3⟩ := ray_z g3
  obtain ⟨m1, b1, u1⟩ := rayv_ok E1
  obtain ⟨m2, b2, u2⟩ := rayv_ok E2
  obtain ⟨m3, b3, u3⟩ := rayv_ok E3
  have hs : hsw k = 64800000 ∨ hsw k = -64800000 := by unfold hsw; split; exact .inl rfl; exact .inr rfl
  rw [E2, E3] at g4
  rw [E1, E3] at g5
  have k1 : x1 + (x3 - a) = x3 + qnear (r * sn (hu i k)) 1073741824 := by rw [m1]; generalize qnear _ _ = X; omega
  have k2 : y1 + (y3 - b) = y3 + qnear (r * cn (hu i k)) 1073741824 := by rw [b1]; generalize qnear _ _ = X; omega
  have k3 : x2 + (x3 - a) = x3 + qnear (2 * r * sn (hu i k)) 1073741824 := by rw [m2]; generalize qnear _ _ = X; omega
  have k4 : y2 + (y3 - b) = y3 + qnear (2 * r * cn (hu i k)) 1073741824 := by rw [b2]; generalize qnear _ _ = X; omega
  unfold shOf
  rw [E1, E2, E3]
  exact ⟨rfl, rfl, h1, u2, g4, u3, u1, g5, m1, b1, m2, b2, k1, k2, k3, k4, hs, hr.1, hr.2⟩
theorem avd_mk {x y r f s : Int} (h : pvd x y = true) (h0 : 1 ≤ r) (h1 : r ≤ 2000000) (hs : s = 64800000 ∨ s = -64800000) : avd x y r (f % 129600000) s = true := by
  unfold avd
  rw [h, decide_eq_true h0, decide_eq_true (show r ≤ 8000000 by omega), decide_eq_true (show 0 ≤ f % 129600000 by omega)]
  simp
  omega
theorem clo_pat {S : Sh} {a b r : Int} (K : ShOk S a b r) : Clo 4 (patE S r) a b := by
  obtain ⟨a0, b0, v0, v1, v2, v3, w1, w2, k1, k2, k3, k4, k5, k6, k7, k8, hs, r0, r1⟩ := K
  refine ⟨by omega, by omega, a0, b0, a0, b0, fun i hi => ?_, fun i hi => ?_, fun i hi => ?_, fun i hi hc => ?_⟩
  · match i, hi with | 0, _ => rfl | 1, _ => rfl | 2, _ => rfl | 3, _ => rfl
  · match i, hi with | 0, _ => exact ⟨rfl, rfl⟩ | 1, _ => exact ⟨rfl, rfl⟩ | 2, _ => exact ⟨rfl, rfl⟩
  · match i, hi with | 0, _ => exact ⟨v0, v1⟩ | 1, _ => exact ⟨v1, v2⟩ | 2, _ => exact ⟨v2, v3⟩ | 3, _ => exact ⟨v3, v0⟩
  · match i, hi with
    | 0, _ => exact arc_ok (avd_mk w1 r0 r1 hs) r1 hs k1 k2 k3 k4
    | 1, _ => exact Bool.noConfusion (hc : false = true)
    | 2, _ => exact arc_ok' (avd_mk w2 r0 r1 hs) r1 hs k5 k6 k7 k8
    | 3, _ => exact Bool.noConfusion (hc : false = true)
theorem len_pat {S : Sh} {a b r : Int} (K : ShOk S a b r) : (patE S r 0).l = (patE S r 2).l := by
  have C := clo_pat K
  rw [(C.c 0 (by omega) rfl).l, (C.c 2 (by omega) rfl).l]
  rfl
/-- the elements of the two entries that have some. -/
def tearE (S : Sh) (r : Int) : Nat → El := el3 (lineE S.p0x S.p0y S.p2x S.p2y) (arcE S.p2x S.p2y S.p3x S.p3y S.c2x S.c2y r S.u S.s) (lineE S.p3x S.p3y S.p0x S.p0y)
def parE (S : Sh) (r : Int) : Nat → El := el3 (lineE S.p0x S.p0y S.p3x S.p3y) (arcE S.p3x S.p3y S.p2x S.p2y S.c2x S.c2y r (S.u + 64800000) (-S.s)) (lineE S.p2x S.p2y S.p0x S.p0y)
theorem clo_tear {S : Sh} {a b r : Int} (K : ShOk S a b r) : Clo 3 (tearE S r) a b := by
  obtain ⟨a0, b0, v0, v1, v2, v3, w1, w2, k1, k2, k3, k4, k5, k6, k7, k8, hs, r0, r1⟩ := K
  refine ⟨by omega, by omega, a0, b0, a0, b0, fun i hi => ?_, fun i hi => ?_, fun i hi => ?_, fun i hi hc => ?_⟩
  · match i, hi with | 0, _ => rfl | 1, _ => rfl | 2, _ => rfl
  · match i, hi with | 0, _ => exact ⟨rfl, rfl⟩ | 1, _ => exact ⟨rfl, rfl⟩
  · match i, hi with | 0, _ => exact ⟨v0, v2⟩ | 1, _ => exact ⟨v2, v3⟩ | 2, _ => exact ⟨v3, v0⟩
  · match i, hi with
    | 0, _ => exact Bool.noConfusion (hc : false = true)
    | 1, _ => exact arc_ok' (avd_mk w2 r0 r1 hs) r1 hs k5 k6 k7 k8
    | 2, _ => exact Bool.noConfusion (hc : false = true)
theorem clo_par {S : Sh} {a b r : Int} (K : ShOk S a b r) : Clo 3 (parE S r) a b := by
  obtain ⟨a0, b0, v0, v1, v2, v3, w1, w2, k1, k2, k3, k4, k5, k6, k7, k8, hs, r0, r1⟩ := K
  have hs2 : -S.s = 64800000 ∨ -S.s = -64800000 := by omega
  refine ⟨by omega, by omega, a0, b0, a0, b0, fun i hi => ?_, fun i hi => ?_, fun i hi => ?_, fun i hi hc => ?_⟩
  · match i, hi with | 0, _ => rfl | 1, _ => rfl | 2, _ => rfl
  · match i, hi with | 0, _ => exact ⟨rfl, rfl⟩ | 1, _ => exact ⟨rfl, rfl⟩
  · match i, hi with | 0, _ => exact ⟨v0, v3⟩ | 1, _ => exact ⟨v3, v2⟩ | 2, _ => exact ⟨v2, v0⟩
  · match i, hi with
    | 0, _ => exact Bool.noConfusion (hc : false = true)
    | 1, _ => exact arc_ok (avd_mk w2 r0 r1 hs2) r1 hs2 k5 k6 k7 k8
    | 2, _ => exact Bool.noConfusion (hc : false = true)
open Go.RowKit Go.Joins Fdk
set_option linter.unusedVariables false
set_option maxRecDepth 8000 in
set_option maxHeartbeats 32000000 in
theorem closed_5 (bb ca : Nat) (a b : Int) (x : Nat → El) (w : World) (A : ElsAt w bb 5 x) (C : Clo 5 x a b) :
    Calls Try.prog 17 #[.slice (some ⟨bb, 0, none⟩) 5 ca, ptV a b] w fun e w' => e = .returned (.bool true) ∧ Below w.heap.size w w' := by
  have A1 := A.alc (.cells #[.int .i64 a, .int .i64 b] 30)
  have q0 : (w.alloc (.cells #[.int .i64 a, .int .i64 b] 30)).cell? ⟨bb, 1, none⟩ = some (.int .i64 a) := by have := (A1.at_ 0 (by omega)).c1; rw [C.a0] at this; exact this
  have q1 : (w.alloc (.cells #[.int .i64 a, .int .i64 b] 30)).cell? ⟨bb, 2, none⟩ = some (.int .i64 b) := by have := (A1.at_ 0 (by omega)).c2; rw [C.a1] at this; exact this
  have q2 : (w.alloc (.cells #[.int .i64 a, .int .i64 b] 30)).cell? ⟨bb, 55, none⟩ = some (.int .i64 a) := by have := (A1.at_ 4 (by omega)).c3; rw [show x 4 = x (5 - 1) from rfl, C.b0] at this; exact this
  have q3 : (w.alloc (.cells #[.int .i64 a, .int .i64 b] 30)).cell? ⟨bb, 56, none⟩ = some (.int .i64 b) := by have := (A1.at_ 4 (by omega)).c4; rw [show x 4 = x (5 - 1) from rfl, C.b1] at this; exact this
  have HA := Lib.hid A1
  have HC := Lib.hid C
  clear A A1 C
  go_enter Try.func17, Try.ntmps17
  go_wp2_with fail
  go_quiet (fail)
  clear q0 q1 q2 q3
  have HA2 := Lib.hid (HA.out.next (below_draws _ _ nq))
  have HB := Lib.hid (thn (below_alloc1 w _) (below_draws _ (w.alloc (.cells #[.int .i64 a, .int .i64 b] 30)) nq))
  clear HA
  go_wp2_with fail
  generalize (w.alloc (.cells #[.int .i64 a, .int .i64 b] 30)).drewN nq = v at *
  go_loopw [37] (fun s37 wr => ∃ k : Nat, k ≤ 5 ∧ s37 = .int .i64 k ∧ Below v.heap.size v wr) (fun s37 _ => 5 - (intOf s37).toNat)
  case atStart => exact ⟨0, Nat.zero_le _, rfl, Below.refl _ _⟩
  case round =>
    obtain ⟨k, hk, rfl, hd⟩ := hrel
    by_cases h1 : k < 5
    · have E4 := HA2.out.next hd
      have HE := Lib.hid (E4.at_ k h1)
      have HD := Lib.hid hd
      have h2 : (k : Int) < 5 := by omega
      have h0 : (0 : Int) ≤ k := Int.natCast_nonneg k
      have hg := HC.out.g k h1
      have hp := HC.out.p k h1
      have hc := HC.out.c k h1
      rcases Nat.eq_zero_or_pos k with hk0 | hk0
      · subst hk0
        clear E4 hd
        generalize x 0 = y at *
        obtain ⟨cu, ax, ay, bx, b_, cx, cy, r, f, s, l, n, g⟩ := y
        obtain rfl : g = false := hg
        cases cu
        · clear hc hp
          obtain ⟨p0, p1, p2, p3, p4, p5, p6, p7, p8, p9, p10, p11, p12⟩ := id HE.out
          go_wp2_with fail
          clear p0 p1 p2 p3 p4 p5 p6 p7 p8 p9 p10 p11 p12
          have D := c13_new wr (.bool false) (.int .i64 ax) (.int .i64 ay) (.int .i64 bx) (.int .i64 b_) (.int .i64 cx) (.int .i64 cy) (.int .i64 r) (.int .i64 f) (.int .i64 s) (.int .i64 l) (.int .i64 n) (.bool false) 43
          have B := Lib.hid (alc HD.out (.cells #[.bool false, .int .i64 ax, .int .i64 ay, .int .i64 bx, .int .i64 b_, .int .i64 cx, .int .i64 cy, .int .i64 r, .int .i64 f, .int .i64 s, .int .i64 l, .int .i64 n, .bool false] 43))
          clear HE
          generalize wr.alloc (.cells #[.bool false, .int .i64 ax, .int .i64 ay, .int .i64 bx, .int .i64 b_, .int .i64 cx, .int .i64 cy, .int .i64 r, .int .i64 f, .int .i64 s, .int .i64 l, .int .i64 n, .bool false] 43) = u at *
          generalize wr.heap.size = bd at *
          obtain ⟨d0, d1, d2, d3, d4, d5, d6, d7, d8, d9, d10, d11, d12, f0_, f1_, f2_, f3_, f4_, f5_, f6_, f7_, f8_, f9_, f10_, f11_, f12_, dl⟩ := id D
          go_quiet (fail)
          clear d0 d1 d2 d3 d4 d5 d6 d7 d8 d9 d10 d11 d12 f0_ f1_ f2_ f3_ f4_ f5_ f6_ f7_ f8_ f9_ f10_ f11_ f12_ dl
          replace D := D.next (below_draws _ u nq)
          replace B := Lib.hid (thn B.out (below_draws _ u nq))
          generalize u.drewN nq = u2 at *
          obtain ⟨d0, d1, d2, d3, d4, d5, d6, d7, d8, d9, d10, d11, d12, f0_, f1_, f2_, f3_, f4_, f5_, f6_, f7_, f8_, f9_, f10_, f11_, f12_, dl⟩ := id D
          go_wp2_with fail
          go_roundw
          case rel => exact ⟨0 + 1, by omega, rfl, B.out⟩
          case measure => first | (simp [intOf]; done) | (simp [intOf]; omega)
        · have K := hc rfl
          have hv : avd cx cy r f s = true := K.v
          have hl : l = qnear (r * 64800000) 20626481 := K.l
          have hl2 : alen cx cy r f s = l := by
            unfold alen; rw [if_pos hv, hl]
            rcases K.s with h | h
            · rw [show s = 64800000 from h]; rfl
            · rw [show s = -64800000 from h]; rfl
          have HVa := Lib.hid (fun w => avalid_any cx cy r f s w)
          rw [hv] at HVa
          have HLn := Lib.hid (fun w => alen_any cx cy r f s w)
          rw [hl2] at HLn
          obtain ⟨t0, ht0⟩ := tat_0 _ K
          obtain ⟨t1, ht1⟩ := tat_1 _ K
          have HE0 := Lib.hid (atend0 K)
          have HE1 := Lib.hid (atend1 K)
          have HT0 := Lib.hid ht0
          have HT1 := Lib.hid ht1
          clear ht0 ht1 hv hl hl2 hc K
          simp only [] at HT0 HT1 HE0 HE1 hp
          obtain ⟨p0, p1, p2, p3, p4, p5, p6, p7, p8, p9, p10, p11, p12⟩ := id HE.out
          go_wp2_with fail
          clear p0 p1 p2 p3 p4 p5 p6 p7 p8 p9 p10 p11 p12
          have D := c13_new wr (.bool true) (.int .i64 ax) (.int .i64 ay) (.int .i64 bx) (.int .i64 b_) (.int .i64 cx) (.int .i64 cy) (.int .i64 r) (.int .i64 f) (.int .i64 s) (.int .i64 l) (.int .i64 n) (.bool false) 43
          have B := Lib.hid (alc HD.out (.cells #[.bool true, .int .i64 ax, .int .i64 ay, .int .i64 bx, .int .i64 b_, .int .i64 cx, .int .i64 cy, .int .i64 r, .int .i64 f, .int .i64 s, .int .i64 l, .int .i64 n, .bool false] 43))
          clear HE
          generalize wr.alloc (.cells #[.bool true, .int .i64 ax, .int .i64 ay, .int .i64 bx, .int .i64 b_, .int .i64 cx, .int .i64 cy, .int .i64 r, .int .i64 f, .int .i64 s, .int .i64 l, .int .i64 n, .bool false] 43) = u at *
          generalize wr.heap.size = bd at *
          obtain ⟨d0, d1, d2, d3, d4, d5, d6, d7, d8, d9, d10, d11, d12, f0_, f1_, f2_, f3_, f4_, f5_, f6_, f7_, f8_, f9_, f10_, f11_, f12_, dl⟩ := id D
          go_quiet (fail)
          clear d0 d1 d2 d3 d4 d5 d6 d7 d8 d9 d10 d11 d12 f0_ f1_ f2_ f3_ f4_ f5_ f6_ f7_ f8_ f9_ f10_ f11_ f12_ dl
          replace D := D.next (below_draws _ u nq)
          replace B := Lib.hid (thn B.out (below_draws _ u nq))
          generalize u.drewN nq = u2 at *
          obtain ⟨d0, d1, d2, d3, d4, d5, d6, d7, d8, d9, d10, d11, d12, f0_, f1_, f2_, f3_, f4_, f5_, f6_, f7_, f8_, f9_, f10_, f11_, f12_, dl⟩ := id D
          go_wp2_with fail
          clear d0 d1 d2 d3 d4 d5 d6 d7 d8 d9 d10 d11 d12 f0_ f1_ f2_ f3_ f4_ f5_ f6_ f7_ f8_ f9_ f10_ f11_ f12_ dl
          have L5 : ∀ w', Below u2.heap.size u2 w' → w'.cell? ⟨bd, 5, none⟩ = some (.int .i64 cx) := fun _ h => (D.next h).c5
          have L6 : ∀ w', Below u2.heap.size u2 w' → w'.cell? ⟨bd, 6, none⟩ = some (.int .i64 cy) := fun _ h => (D.next h).c6
          have L7 : ∀ w', Below u2.heap.size u2 w' → w'.cell? ⟨bd, 7, none⟩ = some (.int .i64 r) := fun _ h => (D.next h).c7
          have L8 : ∀ w', Below u2.heap.size u2 w' → w'.cell? ⟨bd, 8, none⟩ = some (.int .i64 f) := fun _ h => (D.next h).c8
          have L9 : ∀ w', Below u2.heap.size u2 w' → w'.cell? ⟨bd, 9, none⟩ = some (.int .i64 s) := fun _ h => (D.next h).c9
          have L10 : ∀ w', Below u2.heap.size u2 w' → w'.cell? ⟨bd, 10, none⟩ = some (.int .i64 l) := fun _ h => (D.next h).c10
          have HDD := Lib.hid D
          clear D
          go_region_held3 (fun w' => Below u2.heap.size u2 w') (first | with_reducible exact bdrew _ | with_reducible exact hS2 | with_reducible exact hS1)
            (first | (go_at_call 29; with_reducible refine (HVa.out _).mono ?_; rintro e x1 ⟨rfl, hb1⟩; have hS1 := thn (bdrew u2) hb1) | (go_at_call 30; with_reducible refine (HLn.out _).mono ?_; rintro e x2 ⟨rfl, hb2⟩; have hS2 := thn hS1 hb2))
          clear L5 L6 L7 L8 L9 L10
          replace B := Lib.hid (thn B.out hS2)
          have D := HDD.out.next hS2
          clear HDD hS1 hS2 hb1 hb2
          obtain ⟨d0, d1, d2, d3, d4, d5, d6, d7, d8, d9, d10, d11, d12, f0_, f1_, f2_, f3_, f4_, f5_, f6_, f7_, f8_, f9_, f10_, f11_, f12_, dl⟩ := id D
          go_wp2_with fail
          refine (HT0.out _).mono ?_
          rintro e w3 ⟨rfl, hb⟩
          clear d0 d1 d2 d3 d4 d5 d6 d7 d8 d9 d10 d11 d12 f0_ f1_ f2_ f3_ f4_ f5_ f6_ f7_ f8_ f9_ f10_ f11_ f12_ dl
          have HAX := Lib.hid hp.1
          have HBX := Lib.hid hp.2
          clear hp
          rcases HE0.out with ⟨X0, Y0, h0, n0, v0⟩ | h0
          · rw [h0]
            have HN0 := Lib.hid (fun w => near_any X0 Y0 ax ay w n0 v0 HAX.out)
            clear n0 v0
            clear h0
            have Q0 := c2_new w3 (.int .i64 X0) (.int .i64 Y0) 30
            replace B := Lib.hid (alc (thn B.out hb) (.cells #[.int .i64 X0, .int .i64 Y0] 30))
            replace D := (D.next hb).alc (.cells #[.int .i64 X0, .int .i64 Y0] 30)
            clear hb
            obtain ⟨d0, d1, d2, d3, d4, d5, d6, d7, d8, d9, d10, d11, d12, f0_, f1_, f2_, f3_, f4_, f5_, f6_, f7_, f8_, f9_, f10_, f11_, f12_, dl⟩ := id D
            go_wp2_with fail
            generalize w3.alloc (.cells #[.int .i64 X0, .int .i64 Y0] 30) = u3 at *
            generalize w3.heap.size = bq0 at *
            refine (HT1.out _).mono ?_
            rintro e w4 ⟨rfl, hb⟩
            clear d0 d1 d2 d3 d4 d5 d6 d7 d8 d9 d10 d11 d12 f0_ f1_ f2_ f3_ f4_ f5_ f6_ f7_ f8_ f9_ f10_ f11_ f12_ dl
            rcases HE1.out with ⟨X1, Y1, h1_, n1, v1⟩ | h1_
            · rw [h1_]
              have HN1 := Lib.hid (fun w => near_any X1 Y1 bx b_ w n1 v1 HBX.out)
              clear n1 v1
              clear h1_
              have Q1 := c2_new w4 (.int .i64 X1) (.int .i64 Y1) 30
              replace B := Lib.hid (alc (thn B.out hb) (.cells #[.int .i64 X1, .int .i64 Y1] 30))
              replace D := (D.next hb).alc (.cells #[.int .i64 X1, .int .i64 Y1] 30)
              replace Q0 := (Q0.next hb).alc (.cells #[.int .i64 X1, .int .i64 Y1] 30)
              clear hb
              obtain ⟨d0, d1, d2, d3, d4, d5, d6, d7, d8, d9, d10, d11, d12, f0_, f1_, f2_, f3_, f4_, f5_, f6_, f7_, f8_, f9_, f10_, f11_, f12_, dl⟩ := id D
              obtain ⟨q0, q1, q2, q3, ql⟩ := id Q0
              obtain ⟨r0, r1, r2, r3, rl⟩ := id Q1
              go_wp2_with fail
              clear d0 d1 d2 d3 d4 d5 d6 d7 d8 d9 d10 d11 d12 f0_ f1_ f2_ f3_ f4_ f5_ f6_ f7_ f8_ f9_ f10_ f11_ f12_ dl q0 q1 q2 q3 ql r0 r1 r2 r3 rl
              refine (HN0.out _).mono ?_
              rintro e w5 ⟨rfl, hb⟩
              replace B := Lib.hid (thn B.out hb)
              replace D := D.next hb
              replace Q1 := Q1.next hb
              clear hb Q0
              obtain ⟨d0, d1, d2, d3, d4, d5, d6, d7, d8, d9, d10, d11, d12, f0_, f1_, f2_, f3_, f4_, f5_, f6_, f7_, f8_, f9_, f10_, f11_, f12_, dl⟩ := id D
              obtain ⟨r0, r1, r2, r3, rl⟩ := id Q1
              go_wp2_with fail
              clear d0 d1 d2 d3 d4 d5 d6 d7 d8 d9 d10 d11 d12 f0_ f1_ f2_ f3_ f4_ f5_ f6_ f7_ f8_ f9_ f10_ f11_ f12_ dl r0 r1 r2 r3 rl
              refine (HN1.out _).mono ?_
              rintro e w6 ⟨rfl, hb⟩
              replace B := Lib.hid (thn B.out hb)
              clear hb
              go_wp2_with fail
              go_roundw
              case rel => exact ⟨0 + 1, by omega, rfl, B.out⟩
              case measure => first | (simp [intOf]; done) | (simp [intOf]; omega)
            · rw [h1_]
              clear h1_
              have Q1 := c2_new w4 (.int .i64 0) (.int .i64 0) 30
              replace B := Lib.hid (alc (thn B.out hb) (.cells #[.int .i64 0, .int .i64 0] 30))
              replace D := (D.next hb).alc (.cells #[.int .i64 0, .int .i64 0] 30)
              replace Q0 := (Q0.next hb).alc (.cells #[.int .i64 0, .int .i64 0] 30)
              clear hb
              obtain ⟨d0, d1, d2, d3, d4, d5, d6, d7, d8, d9, d10, d11, d12, f0_, f1_, f2_, f3_, f4_, f5_, f6_, f7_, f8_, f9_, f10_, f11_, f12_, dl⟩ := id D
              obtain ⟨q0, q1, q2, q3, ql⟩ := id Q0
              obtain ⟨r0, r1, r2, r3, rl⟩ := id Q1
              go_wp2_with fail
              clear d0 d1 d2 d3 d4 d5 d6 d7 d8 d9 d10 d11 d12 f0_ f1_ f2_ f3_ f4_ f5_ f6_ f7_ f8_ f9_ f10_ f11_ f12_ dl q0 q1 q2 q3 ql r0 r1 r2 r3 rl
              refine (HN0.out _).mono ?_
              rintro e w5 ⟨rfl, hb⟩
              replace B := Lib.hid (thn B.out hb)
              replace D := D.next hb
              replace Q1 := Q1.next hb
              clear hb Q0
              obtain ⟨d0, d1, d2, d3, d4, d5, d6, d7, d8, d9, d10, d11, d12, f0_, f1_, f2_, f3_, f4_, f5_, f6_, f7_, f8_, f9_, f10_, f11_, f12_, dl⟩ := id D
              obtain ⟨r0, r1, r2, r3, rl⟩ := id Q1
              go_wp2_with fail
              clear d0 d1 d2 d3 d4 d5 d6 d7 d8 d9 d10 d11 d12 f0_ f1_ f2_ f3_ f4_ f5_ f6_ f7_ f8_ f9_ f10_ f11_ f12_ dl r0 r1 r2 r3 rl
              go_roundw
              case rel => exact ⟨0 + 1, by omega, rfl, B.out⟩
              case measure => first | (simp [intOf]; done) | (simp [intOf]; omega)
          · rw [h0]
            clear h0
            have Q0 := c2_new w3 (.int .i64 0) (.int .i64 0) 30
            replace B := Lib.hid (alc (thn B.out hb) (.cells #[.int .i64 0, .int .i64 0] 30))
            replace D := (D.next hb).alc (.cells #[.int .i64 0, .int .i64 0] 30)
            clear hb
            obtain ⟨d0, d1, d2, d3, d4, d5, d6, d7, d8, d9, d10, d11, d12, f0_, f1_, f2_, f3_, f4_, f5_, f6_, f7_, f8_, f9_, f10_, f11_, f12_, dl⟩ := id D
            go_wp2_with fail
            generalize w3.alloc (.cells #[.int .i64 0, .int .i64 0] 30) = u3 at *
            generalize w3.heap.size = bq0 at *
            refine (HT1.out _).mono ?_
            rintro e w4 ⟨rfl, hb⟩
            clear d0 d1 d2 d3 d4 d5 d6 d7 d8 d9 d10 d11 d12 f0_ f1_ f2_ f3_ f4_ f5_ f6_ f7_ f8_ f9_ f10_ f11_ f12_ dl
            rcases HE1.out with ⟨X1, Y1, h1_, n1, v1⟩ | h1_
            · rw [h1_]
              have HN1 := Lib.hid (fun w => near_any X1 Y1 bx b_ w n1 v1 HBX.out)
              clear n1 v1
              clear h1_
              have Q1 := c2_new w4 (.int .i64 X1) (.int .i64 Y1) 30
              replace B := Lib.hid (alc (thn B.out hb) (.cells #[.int .i64 X1, .int .i64 Y1] 30))
              replace D := (D.next hb).alc (.cells #[.int .i64 X1, .int .i64 Y1] 30)
              replace Q0 := (Q0.next hb).alc (.cells #[.int .i64 X1, .int .i64 Y1] 30)
              clear hb
              obtain ⟨d0, d1, d2, d3, d4, d5, d6, d7, d8, d9, d10, d11, d12, f0_, f1_, f2_, f3_, f4_, f5_, f6_, f7_, f8_, f9_, f10_, f11_, f12_, dl⟩ := id D
              obtain ⟨q0, q1, q2, q3, ql⟩ := id Q0
              obtain ⟨r0, r1, r2, r3, rl⟩ := id Q1
              go_wp2_with fail
              clear d0 d1 d2 d3 d4 d5 d6 d7 d8 d9 d10 d11 d12 f0_ f1_ f2_ f3_ f4_ f5_ f6_ f7_ f8_ f9_ f10_ f11_ f12_ dl q0 q1 q2 q3 ql r0 r1 r2 r3 rl
              refine (HN1.out _).mono ?_
              rintro e w6 ⟨rfl, hb⟩
              replace B := Lib.hid (thn B.out hb)
              clear hb
              go_wp2_with fail
              go_roundw
              case rel => exact ⟨0 + 1, by omega, rfl, B.out⟩
              case measure => first | (simp [intOf]; done) | (simp [intOf]; omega)
            · rw [h1_]
              clear h1_
              have Q1 := c2_new w4 (.int .i64 0) (.int .i64 0) 30
              replace B := Lib.hid (alc (thn B.out hb) (.cells #[.int .i64 0, .int .i64 0] 30))
              replace D := (D.next hb).alc (.cells #[.int .i64 0, .int .i64 0] 30)
              replace Q0 := (Q0.next hb).alc (.cells #[.int .i64 0, .int .i64 0] 30)
              clear hb
              obtain ⟨d0, d1, d2, d3, d4, d5, d6, d7, d8, d9, d10, d11, d12, f0_, f1_, f2_, f3_, f4_, f5_, f6_, f7_, f8_, f9_, f10_, f11_, f12_, dl⟩ := id D
              obtain ⟨q0, q1, q2, q3, ql⟩ := id Q0
              obtain ⟨r0, r1, r2, r3, rl⟩ := id Q1
              go_wp2_with fail
              clear d0 d1 d2 d3 d4 d5 d6 d7 d8 d9 d10 d11 d12 f0_ f1_ f2_ f3_ f4_ f5_ f6_ f7_ f8_ f9_ f10_ f11_ f12_ dl q0 q1 q2 q3 ql r0 r1 r2 r3 rl
              go_roundw
              case rel => exact ⟨0 + 1, by omega, rfl, B.out⟩
              case measure => first | (simp [intOf]; done) | (simp [intOf]; omega)
      · obtain ⟨j, hj⟩ : ∃ j, k = j + 1 := ⟨k - 1, by omega⟩
        have hm := HC.out.m j (by omega)
        rw [← hj] at hm
        have HP := Lib.hid (Pv.mk (hm.1 ▸ (E4.at_ j (by omega)).c3 : wr.cell? ⟨bb, j * 13 + 3, none⟩ = some (.int .i64 (x k).ax)) (hm.2 ▸ (E4.at_ j (by omega)).c4 : wr.cell? ⟨bb, j * 13 + 4, none⟩ = some (.int .i64 (x k).ay)) ⟨E4.lt, E4.lt⟩)
        have hpos : (k : Int) > 0 := by omega
        have hpos' : 0 < k := by omega
        have e1 : IntKind.i64.wrap ((k : Int) - 1) = (j : Int) := (IntWalk.i64_in _ (by omega)).trans (by omega)
        have j0 : (0 : Int) ≤ j := Int.natCast_nonneg j
        have j4 : (j : Int) < 5 := by omega
        have j4' : j < 5 := by omega
        clear E4 hd hm hj hk0
        generalize x k = y at *
        obtain ⟨cu, ax, ay, bx, b_, cx, cy, r, f, s, l, n, g⟩ := y
        obtain rfl : g = false := hg
        cases cu
        · clear hc hp
          obtain ⟨p0, p1, p2, p3, p4, p5, p6, p7, p8, p9, p10, p11, p12⟩ := id HE.out
          go_wp2_with fail
          clear p0 p1 p2 p3 p4 p5 p6 p7 p8 p9 p10 p11 p12
          have D := c13_new wr (.bool false) (.int .i64 ax) (.int .i64 ay) (.int .i64 bx) (.int .i64 b_) (.int .i64 cx) (.int .i64 cy) (.int .i64 r) (.int .i64 f) (.int .i64 s) (.int .i64 l) (.int .i64 n) (.bool false) 43
          have B := Lib.hid (alc HD.out (.cells #[.bool false, .int .i64 ax, .int .i64 ay, .int .i64 bx, .int .i64 b_, .int .i64 cx, .int .i64 cy, .int .i64 r, .int .i64 f, .int .i64 s, .int .i64 l, .int .i64 n, .bool false] 43))
          have z3 := (HP.out.alc (.cells #[.bool false, .int .i64 ax, .int .i64 ay, .int .i64 bx, .int .i64 b_, .int .i64 cx, .int .i64 cy, .int .i64 r, .int .i64 f, .int .i64 s, .int .i64 l, .int .i64 n, .bool false] 43)).1
          have z4 := (HP.out.alc (.cells #[.bool false, .int .i64 ax, .int .i64 ay, .int .i64 bx, .int .i64 b_, .int .i64 cx, .int .i64 cy, .int .i64 r, .int .i64 f, .int .i64 s, .int .i64 l, .int .i64 n, .bool false] 43)).2
          clear HE
          generalize wr.alloc (.cells #[.bool false, .int .i64 ax, .int .i64 ay, .int .i64 bx, .int .i64 b_, .int .i64 cx, .int .i64 cy, .int .i64 r, .int .i64 f, .int .i64 s, .int .i64 l, .int .i64 n, .bool false] 43) = u at *
          generalize wr.heap.size = bd at *
          obtain ⟨d0, d1, d2, d3, d4, d5, d6, d7, d8, d9, d10, d11, d12, f0_, f1_, f2_, f3_, f4_, f5_, f6_, f7_, f8_, f9_, f10_, f11_, f12_, dl⟩ := id D
          go_quiet (fail)
          clear d0 d1 d2 d3 d4 d5 d6 d7 d8 d9 d10 d11 d12 f0_ f1_ f2_ f3_ f4_ f5_ f6_ f7_ f8_ f9_ f10_ f11_ f12_ dl z3 z4
          replace D := D.next (below_draws _ u nq)
          replace B := Lib.hid (thn B.out (below_draws _ u nq))
          generalize u.drewN nq = u2 at *
          obtain ⟨d0, d1, d2, d3, d4, d5, d6, d7, d8, d9, d10, d11, d12, f0_, f1_, f2_, f3_, f4_, f5_, f6_, f7_, f8_, f9_, f10_, f11_, f12_, dl⟩ := id D
          go_wp2_with fail
          go_roundw
          case rel => exact ⟨k + 1, by omega, rfl, B.out⟩
          case measure => first | (simp [intOf]; done) | (simp [intOf]; omega)
        · have K := hc rfl
          have hv : avd cx cy r f s = true := K.v
          have hl : l = qnear (r * 64800000) 20626481 := K.l
          have hl2 : alen cx cy r f s = l := by
            unfold alen; rw [if_pos hv, hl]
            rcases K.s with h | h
            · rw [show s = 64800000 from h]; rfl
            · rw [show s = -64800000 from h]; rfl
          have HVa := Lib.hid (fun w => avalid_any cx cy r f s w)
          rw [hv] at HVa
          have HLn := Lib.hid (fun w => alen_any cx cy r f s w)
          rw [hl2] at HLn
          obtain ⟨t0, ht0⟩ := tat_0 _ K
          obtain ⟨t1, ht1⟩ := tat_1 _ K
          have HE0 := Lib.hid (atend0 K)
          have HE1 := Lib.hid (atend1 K)
          have HT0 := Lib.hid ht0
          have HT1 := Lib.hid ht1
          clear ht0 ht1 hv hl hl2 hc K
          simp only [] at HT0 HT1 HE0 HE1 hp
          obtain ⟨p0, p1, p2, p3, p4, p5, p6, p7, p8, p9, p10, p11, p12⟩ := id HE.out
          go_wp2_with fail
          clear p0 p1 p2 p3 p4 p5 p6 p7 p8 p9 p10 p11 p12
          have D := c13_new wr (.bool true) (.int .i64 ax) (.int .i64 ay) (.int .i64 bx) (.int .i64 b_) (.int .i64 cx) (.int .i64 cy) (.int .i64 r) (.int .i64 f) (.int .i64 s) (.int .i64 l) (.int .i64 n) (.bool false) 43
          have B := Lib.hid (alc HD.out (.cells #[.bool true, .int .i64 ax, .int .i64 ay, .int .i64 bx, .int .i64 b_, .int .i64 cx, .int .i64 cy, .int .i64 r, .int .i64 f, .int .i64 s, .int .i64 l, .int .i64 n, .bool false] 43))
          have z3 := (HP.out.alc (.cells #[.bool true, .int .i64 ax, .int .i64 ay, .int .i64 bx, .int .i64 b_, .int .i64 cx, .int .i64 cy, .int .i64 r, .int .i64 f, .int .i64 s, .int .i64 l, .int .i64 n, .bool false] 43)).1
          have z4 := (HP.out.alc (.cells #[.bool true, .int .i64 ax, .int .i64 ay, .int .i64 bx, .int .i64 b_, .int .i64 cx, .int .i64 cy, .int .i64 r, .int .i64 f, .int .i64 s, .int .i64 l, .int .i64 n, .bool false] 43)).2
          clear HE
          generalize wr.alloc (.cells #[.bool true, .int .i64 ax, .int .i64 ay, .int .i64 bx, .int .i64 b_, .int .i64 cx, .int .i64 cy, .int .i64 r, .int .i64 f, .int .i64 s, .int .i64 l, .int .i64 n, .bool false] 43) = u at *
          generalize wr.heap.size = bd at *
          obtain ⟨d0, d1, d2, d3, d4, d5, d6, d7, d8, d9, d10, d11, d12, f0_, f1_, f2_, f3_, f4_, f5_, f6_, f7_, f8_, f9_, f10_, f11_, f12_, dl⟩ := id D
          go_quiet (fail)
          clear d0 d1 d2 d3 d4 d5 d6 d7 d8 d9 d10 d11 d12 f0_ f1_ f2_ f3_ f4_ f5_ f6_ f7_ f8_ f9_ f10_ f11_ f12_ dl z3 z4
          replace D := D.next (below_draws _ u nq)
          replace B := Lib.hid (thn B.out (below_draws _ u nq))
          generalize u.drewN nq = u2 at *
          obtain ⟨d0, d1, d2, d3, d4, d5, d6, d7, d8, d9, d10, d11, d12, f0_, f1_, f2_, f3_, f4_, f5_, f6_, f7_, f8_, f9_, f10_, f11_, f12_, dl⟩ := id D
          go_wp2_with fail
          clear d0 d1 d2 d3 d4 d5 d6 d7 d8 d9 d10 d11 d12 f0_ f1_ f2_ f3_ f4_ f5_ f6_ f7_ f8_ f9_ f10_ f11_ f12_ dl
          have L5 : ∀ w', Below u2.heap.size u2 w' → w'.cell? ⟨bd, 5, none⟩ = some (.int .i64 cx) := fun _ h => (D.next h).c5
          have L6 : ∀ w', Below u2.heap.size u2 w' → w'.cell? ⟨bd, 6, none⟩ = some (.int .i64 cy) := fun _ h => (D.next h).c6
          have L7 : ∀ w', Below u2.heap.size u2 w' → w'.cell? ⟨bd, 7, none⟩ = some (.int .i64 r) := fun _ h => (D.next h).c7
          have L8 : ∀ w', Below u2.heap.size u2 w' → w'.cell? ⟨bd, 8, none⟩ = some (.int .i64 f) := fun _ h => (D.next h).c8
          have L9 : ∀ w', Below u2.heap.size u2 w' → w'.cell? ⟨bd, 9, none⟩ = some (.int .i64 s) := fun _ h => (D.next h).c9
          have L10 : ∀ w', Below u2.heap.size u2 w' → w'.cell? ⟨bd, 10, none⟩ = some (.int .i64 l) := fun _ h => (D.next h).c10
          have HDD := Lib.hid D
          clear D
          go_region_held3 (fun w' => Below u2.heap.size u2 w') (first | with_reducible exact bdrew _ | with_reducible exact hS2 | with_reducible exact hS1)
            (first | (go_at_call 29; with_reducible refine (HVa.out _).mono ?_; rintro e x1 ⟨rfl, hb1⟩; have hS1 := thn (bdrew u2) hb1) | (go_at_call 30; with_reducible refine (HLn.out _).mono ?_; rintro e x2 ⟨rfl, hb2⟩; have hS2 := thn hS1 hb2))
          clear L5 L6 L7 L8 L9 L10
          replace B := Lib.hid (thn B.out hS2)
          have D := HDD.out.next hS2
          clear HDD hS1 hS2 hb1 hb2
          obtain ⟨d0, d1, d2, d3, d4, d5, d6, d7, d8, d9, d10, d11, d12, f0_, f1_, f2_, f3_, f4_, f5_, f6_, f7_, f8_, f9_, f10_, f11_, f12_, dl⟩ := id D
          go_wp2_with fail
          refine (HT0.out _).mono ?_
          rintro e w3 ⟨rfl, hb⟩
          clear d0 d1 d2 d3 d4 d5 d6 d7 d8 d9 d10 d11 d12 f0_ f1_ f2_ f3_ f4_ f5_ f6_ f7_ f8_ f9_ f10_ f11_ f12_ dl
          have HAX := Lib.hid hp.1
          have HBX := Lib.hid hp.2
          clear hp
          rcases HE0.out with ⟨X0, Y0, h0, n0, v0⟩ | h0
          · rw [h0]
            have HN0 := Lib.hid (fun w => near_any X0 Y0 ax ay w n0 v0 HAX.out)
            clear n0 v0
            clear h0
            have Q0 := c2_new w3 (.int .i64 X0) (.int .i64 Y0) 30
            replace B := Lib.hid (alc (thn B.out hb) (.cells #[.int .i64 X0, .int .i64 Y0] 30))
            replace D := (D.next hb).alc (.cells #[.int .i64 X0, .int .i64 Y0] 30)
            clear hb
            obtain ⟨d0, d1, d2, d3, d4, d5, d6, d7, d8, d9, d10, d11, d12, f0_, f1_, f2_, f3_, f4_, f5_, f6_, f7_, f8_, f9_, f10_, f11_, f12_, dl⟩ := id D
            go_wp2_with fail
            generalize w3.alloc (.cells #[.int .i64 X0, .int .i64 Y0] 30) = u3 at *
            generalize w3.heap.size = bq0 at *
            refine (HT1.out _).mono ?_
            rintro e w4 ⟨rfl, hb⟩
            clear d0 d1 d2 d3 d4 d5 d6 d7 d8 d9 d10 d11 d12 f0_ f1_ f2_ f3_ f4_ f5_ f6_ f7_ f8_ f9_ f10_ f11_ f12_ dl
            rcases HE1.out with ⟨X1, Y1, h1_, n1, v1⟩ | h1_
            · rw [h1_]
              have HN1 := Lib.hid (fun w => near_any X1 Y1 bx b_ w n1 v1 HBX.out)
              clear n1 v1
              clear h1_
              have Q1 := c2_new w4 (.int .i64 X1) (.int .i64 Y1) 30
              replace B := Lib.hid (alc (thn B.out hb) (.cells #[.int .i64 X1, .int .i64 Y1] 30))
              replace D := (D.next hb).alc (.cells #[.int .i64 X1, .int .i64 Y1] 30)
              replace Q0 := (Q0.next hb).alc (.cells #[.int .i64 X1, .int .i64 Y1] 30)
              clear hb
              obtain ⟨d0, d1, d2, d3, d4, d5, d6, d7, d8, d9, d10, d11, d12, f0_, f1_, f2_, f3_, f4_, f5_, f6_, f7_, f8_, f9_, f10_, f11_, f12_, dl⟩ := id D
              obtain ⟨q0, q1, q2, q3, ql⟩ := id Q0
              obtain ⟨r0, r1, r2, r3, rl⟩ := id Q1
              go_wp2_with fail
              clear d0 d1 d2 d3 d4 d5 d6 d7 d8 d9 d10 d11 d12 f0_ f1_ f2_ f3_ f4_ f5_ f6_ f7_ f8_ f9_ f10_ f11_ f12_ dl q0 q1 q2 q3 ql r0 r1 r2 r3 rl
              refine (HN0.out _).mono ?_
              rintro e w5 ⟨rfl, hb⟩
              replace B := Lib.hid (thn B.out hb)
              replace D := D.next hb
              replace Q1 := Q1.next hb
              clear hb Q0
              obtain ⟨d0, d1, d2, d3, d4, d5, d6, d7, d8, d9, d10, d11, d12, f0_, f1_, f2_, f3_, f4_, f5_, f6_, f7_, f8_, f9_, f10_, f11_, f12_, dl⟩ := id D
              obtain ⟨r0, r1, r2, r3, rl⟩ := id Q1
              go_wp2_with fail
              clear d0 d1 d2 d3 d4 d5 d6 d7 d8 d9 d10 d11 d12 f0_ f1_ f2_ f3_ f4_ f5_ f6_ f7_ f8_ f9_ f10_ f11_ f12_ dl r0 r1 r2 r3 rl
              refine (HN1.out _).mono ?_
              rintro e w6 ⟨rfl, hb⟩
              replace B := Lib.hid (thn B.out hb)
              clear hb
              go_wp2_with fail
              go_roundw
              case rel => exact ⟨k + 1, by omega, rfl, B.out⟩
              case measure => first | (simp [intOf]; done) | (simp [intOf]; omega)
            · rw [h1_]
              clear h1_
              have Q1 := c2_new w4 (.int .i64 0) (.int .i64 0) 30
              replace B := Lib.hid (alc (thn B.out hb) (.cells #[.int .i64 0, .int .i64 0] 30))
              replace D := (D.next hb).alc (.cells #[.int .i64 0, .int .i64 0] 30)
              replace Q0 := (Q0.next hb).alc (.cells #[.int .i64 0, .int .i64 0] 30)
              clear hb
              obtain ⟨d0, d1, d2, d3, d4, d5, d6, d7, d8, d9, d10, d11, d12, f0_, f1_, f2_, f3_, f4_, f5_, f6_, f7_, f8_, f9_, f10_, f11_, f12_, dl⟩ := id D
              obtain ⟨q0, q1, q2, q3, ql⟩ := id Q0
              obtain ⟨r0, r1, r2, r3, rl⟩ := id Q1
              go_wp2_with fail
              clear d0 d1 d2 d3 d4 d5 d6 d7 d8 d9 d10 d11 d12 f0_ f1_ f2_ f3_ f4_ f5_ f6_ f7_ f8_ f9_ f10_ f11_ f12_ dl q0 q1 q2 q3 ql r0 r1 r2 r3 rl
              refine (HN0.out _).mono ?_
              rintro e w5 ⟨rfl, hb⟩
              replace B := Lib.hid (thn B.out hb)
              replace D := D.next hb
              replace Q1 := Q1.next hb
              clear hb Q0
              obtain ⟨d0, d1, d2, d3, d4, d5, d6, d7, d8, d9, d10, d11, d12, f0_, f1_, f2_, f3_, f4_, f5_, f6_, f7_, f8_, f9_, f10_, f11_, f12_, dl⟩ := id D
              obtain ⟨r0, r1, r2, r3, rl⟩ := id Q1
              go_wp2_with fail
              clear d0 d1 d2 d3 d4 d5 d6 d7 d8 d9 d10 d11 d12 f0_ f1_ f2_ f3_ f4_ f5_ f6_ f7_ f8_ f9_ f10_ f11_ f12_ dl r0 r1 r2 r3 rl
              go_roundw
              case rel => exact ⟨k + 1, by omega, rfl, B.out⟩
              case measure => first | (simp [intOf]; done) | (simp [intOf]; omega)
          · rw [h0]
            clear h0
            have Q0 := c2_new w3 (.int .i64 0) (.int .i64 0) 30
            replace B := Lib.hid (alc (thn B.out hb) (.cells #[.int .i64 0, .int .i64 0] 30))
            replace D := (D.next hb).alc (.cells #[.int .i64 0, .int .i64 0] 30)
            clear hb
            obtain ⟨d0, d1, d2, d3, d4, d5, d6, d7, d8, d9, d10, d11, d12, f0_, f1_, f2_, f3_, f4_, f5_, f6_, f7_, f8_, f9_, f10_, f11_, f12_, dl⟩ := id D
            go_wp2_with fail
            generalize w3.alloc (.cells #[.int .i64 0, .int .i64 0] 30) = u3 at *
            generalize w3.heap.size = bq0 at *
            refine (HT1.out _).mono ?_
            rintro e w4 ⟨rfl, hb⟩
            clear d0 d1 d2 d3 d4 d5 d6 d7 d8 d9 d10 d11 d12 f0_ f1_ f2_ f3_ f4_ f5_ f6_ f7_ f8_ f9_ f10_ f11_ f12_ dl
            rcases HE1.out with ⟨X1, Y1, h1_, n1, v1⟩ | h1_
            · rw [h1_]
              have HN1 := Lib.hid (fun w => near_any X1 Y1 bx b_ w n1 v1 HBX.out)
              clear n1 v1
              clear h1_
              have Q1 := c2_new w4 (.int .i64 X1) (.int .i64 Y1) 30
              replace B := Lib.hid (alc (thn B.out hb) (.cells #[.int .i64 X1, .int .i64 Y1] 30))
              replace D := (D.next hb).alc (.cells #[.int .i64 X1, .int .i64 Y1] 30)
              replace Q0 := (Q0.next hb).alc (.cells #[.int .i64 X1, .int .i64 Y1] 30)
              clear hb
              obtain ⟨d0, d1, d2, d3, d4, d5, d6, d7, d8, d9, d10, d11, d12, f0_, f1_, f2_, f3_, f4_, f5_, f6_, f7_, f8_, f9_, f10_, f11_, f12_, dl⟩ := id D
              obtain ⟨q0, q1, q2, q3, ql⟩ := id Q0
              obtain ⟨r0, r1, r2, r3, rl⟩ := id Q1
              go_wp2_with fail
              clear d0 d1 d2 d3 d4 d5 d6 d7 d8 d9 d10 d11 d12 f0_ f1_ f2_ f3_ f4_ f5_ f6_ f7_ f8_ f9_ f10_ f11_ f12_ dl q0 q1 q2 q3 ql r0 r1 r2 r3 rl
              refine (HN1.out _).mono ?_
              rintro e w6 ⟨rfl, hb⟩
              replace B := Lib.hid (thn B.out hb)
              clear hb
              go_wp2_with fail
              go_roundw
              case rel => exact ⟨k + 1, by omega, rfl, B.out⟩
              case measure => first | (simp [intOf]; done) | (simp [intOf]; omega)
            · rw [h1_]
              clear h1_
              have Q1 := c2_new w4 (.int .i64 0) (.int .i64 0) 30
              replace B := Lib.hid (alc (thn B.out hb) (.cells #[.int .i64 0, .int .i64 0] 30))
              replace D := (D.next hb).alc (.cells #[.int .i64 0, .int .i64 0] 30)
              replace Q0 := (Q0.next hb).alc (.cells #[.int .i64 0, .int .i64 0] 30)
              clear hb
              obtain ⟨d0, d1, d2, d3, d4, d5, d6, d7, d8, d9, d10, d11, d12, f0_, f1_, f2_, f3_, f4_, f5_, f6_, f7_, f8_, f9_, f10_, f11_, f12_, dl⟩ := id D
              obtain ⟨q0, q1, q2, q3, ql⟩ := id Q0
              obtain ⟨r0, r1, r2, r3, rl⟩ := id Q1
              go_wp2_with fail
              clear d0 d1 d2 d3 d4 d5 d6 d7 d8 d9 d10 d11 d12 f0_ f1_ f2_ f3_ f4_ f5_ f6_ f7_ f8_ f9_ f10_ f11_ f12_ dl q0 q1 q2 q3 ql r0 r1 r2 r3 rl
              go_roundw
              case rel => exact ⟨k + 1, by omega, rfl, B.out⟩
              case measure => first | (simp [intOf]; done) | (simp [intOf]; omega)
    · have h2 : ¬ (k : Int) < 5 := by omega
      have HD := Lib.hid hd
      clear hd
      go_wp2
      go_ret
      exact ⟨rfl, thn HB.out HD.out⟩
open Go.RowKit Go.Joins Fdk
set_option maxRecDepth 4000
set_option linter.unusedVariables false
/-- a call that returns a list of elements that it has made. -/
abbrev MadeEls (f : FuncId) (args : Array Value) (n : Nat) (x : Nat → El) : Prop :=
  ∀ w, Calls Try.prog f args w fun e w' => (∃ bb, w.heap.size ≤ bb ∧ e = .returned (.tuple #[.slice (some ⟨bb, 0, none⟩) n n, .int .i64 0]) ∧ ElsAt w' bb n x) ∧ Below w.heap.size w w'
abbrev NoEls (f : FuncId) (args : Array Value) (E : Int) : Prop :=
  ∀ w, Calls Try.prog f args w fun e w' => e = .returned (.tuple #[.slice none 0 0, .int .i64 E]) ∧ Below w.heap.size w w'
abbrev Wakes : Prop := ∀ w, Calls Try.prog 10 #[] w fun e w' => e = .returned (.bool true) ∧ Below w.heap.size w w'
/-- the arguments' block. -/
structure A6 (w : World) (b : Nat) (x0 x1 x2 x3 x4 x5 : Value) : Prop where
  c0 : w.cell? ⟨b, 0, none⟩ = some x0
  c1 : w.cell? ⟨b, 1, none⟩ = some x1
  c2 : w.cell? ⟨b, 2, none⟩ = some x2
  c3 : w.cell? ⟨b, 3, none⟩ = some x3
  c4 : w.cell? ⟨b, 4, none⟩ = some x4
  c5 : w.cell? ⟨b, 5, none⟩ = some x5
  lt : b < w.heap.size
theorem a6_new (w : World) (x0 x1 x2 x3 x4 x5 : Value) (t : TypeId) : A6 (w.alloc (.cells #[x0, x1, x2, x3, x4, x5] t)) w.heap.size x0 x1 x2 x3 x4 x5 := by
  have e : (w.alloc (.cells #[x0, x1, x2, x3, x4, x5] t)).heap[w.heap.size]? = some (.cells #[x0, x1, x2, x3, x4, x5] t) := by show (w.heap.push _)[w.heap.size]? = _; simp
  exact ⟨by simp only [World.cell?, e]; rfl, by simp only [World.cell?, e]; rfl, by simp only [World.cell?, e]; rfl, by simp only [World.cell?, e]; rfl, by simp only [World.cell?, e]; rfl, by simp only [World.cell?, e]; rfl, by show _ < (w.heap.push _).size; simp⟩
theorem A6.next {w w1 : World} {b : Nat} {x0 x1 x2 x3 x4 x5 : Value} (h : A6 w b x0 x1 x2 x3 x4 x5) (hb : Below w.heap.size w w1) : A6 w1 b x0 x1 x2 x3 x4 x5 :=
  ⟨(hb.cell (p := ⟨b, 0, none⟩) h.lt).trans h.c0, (hb.cell (p := ⟨b, 1, none⟩) h.lt).trans h.c1, (hb.cell (p := ⟨b, 2, none⟩) h.lt).trans h.c2, (hb.cell (p := ⟨b, 3, none⟩) h.lt).trans h.c3, (hb.cell (p := ⟨b, 4, none⟩) h.lt).trans h.c4, (hb.cell (p := ⟨b, 5, none⟩) h.lt).trans h.c5, Nat.lt_of_lt_of_le h.lt hb.size⟩
theorem patterns_ok (a b i k l r : Int) (x : Nat → El) (HA : Hid Wakes)
    (HP : Hid (MadeEls 14 #[ptV a b, .int .i64 i, .int .u8 k, .int .i64 l, .int .i64 r] 4 x))
    (HR : Hid (MadeEls 15 #[ptV a b, .int .i64 i, .int .u8 k, .int .i64 l, .int .i64 r] 4 x)) (w : World) :
    Calls Try.prog 6 #[.agg #[.int .i64 a, .int .i64 b, .int .i64 i, .int .u8 k, .int .i64 l, .int .i64 r]] w fun e w' => e = .returned (.bool true) ∧ Below w.heap.size w w' := by
  go_enter Try.func6, Try.ntmps6
  go_wp2_with fail
  refine (HA.out _).mono ?_
  rintro e w1 ⟨rfl, hb⟩
  have S := (a6_new w (.int .i64 a) (.int .i64 b) (.int .i64 i) (.int .u8 k) (.int .i64 l) (.int .i64 r) 32).next hb
  have B := Lib.hid (thn (below_alloc1 w _) hb)
  clear hb
  obtain ⟨s0, s1, s2, s3, s4, s5, sl⟩ := id S
  go_wp2_with fail
  refine (HP.out _).mono ?_
  rintro e w2 ⟨⟨b1, hb1, rfl, E1⟩, hb⟩
  have HE1 := Lib.hid E1
  clear E1 hb1
  replace S := S.next hb
  replace B := Lib.hid (thn B.out hb)
  clear hb s0 s1 s2 s3 s4 s5 sl
  obtain ⟨s0, s1, s2, s3, s4, s5, sl⟩ := id S
  go_wp2_with fail
  refine (HR.out _).mono ?_
  rintro e w3 ⟨⟨b2, hb2, rfl, E2⟩, hb⟩
  have E1 := HE1.out.next hb
  have HS := Lib.hid (same_some b1 b2 4 4 4 x w3 E1 E2 (by omega))
  replace HE1 := Lib.hid E1
  replace S := S.next hb
  replace B := Lib.hid (thn B.out hb)
  clear hb hb2 s0 s1 s2 s3 s4 s5 sl E1 E2
  go_wp2_with fail
  refine HS.out.mono ?_
  rintro e w4 ⟨rfl, hd⟩
  replace B := Lib.hid (thn B.out (hd.below _))
  replace S := S.next (hd.below _)
  replace HE1 := Lib.hid (HE1.out.next (hd.below _))
  clear hd HS
  obtain ⟨s0, s1, s2, s3, s4, s5, sl⟩ := id S
  go_wp2_with fail
  go_ret
  exact ⟨rfl, B.out⟩
theorem patterns_no (a b i k l r E : Int) (HA : Hid Wakes)
    (HE : (E != 0) = true)
    (HP : Hid (NoEls 14 #[ptV a b, .int .i64 i, .int .u8 k, .int .i64 l, .int .i64 r] E))
    (HR : Hid (NoEls 15 #[ptV a b, .int .i64 i, .int .u8 k, .int .i64 l, .int .i64 r] E)) (w : World) :
    Calls Try.prog 6 #[.agg #[.int .i64 a, .int .i64 b, .int .i64 i, .int .u8 k, .int .i64 l, .int .i64 r]] w fun e w' => e = .returned (.bool true) ∧ Below w.heap.size w w' := by
  go_enter Try.func6, Try.ntmps6
  go_wp2_with fail
  refine (HA.out _).mono ?_
  rintro e w1 ⟨rfl, hb⟩
  have S := (a6_new w (.int .i64 a) (.int .i64 b) (.int .i64 i) (.int .u8 k) (.int .i64 l) (.int .i64 r) 32).next hb
  have B := Lib.hid (thn (below_alloc1 w _) hb)
  clear hb
  obtain ⟨s0, s1, s2, s3, s4, s5, sl⟩ := id S
  go_wp2_with fail
  refine (HP.out _).mono ?_
  rintro e w2 ⟨rfl, hb⟩
  replace S := S.next hb
  replace B := Lib.hid (thn B.out hb)
  clear hb s0 s1 s2 s3 s4 s5 sl
  obtain ⟨s0, s1, s2, s3, s4, s5, sl⟩ := id S
  go_wp2_with fail
  refine (HR.out _).mono ?_
  rintro e w3 ⟨rfl, hb⟩
  have HS := Lib.hid (same_none w3)
  replace S := S.next hb
  replace B := Lib.hid (thn B.out hb)
  clear hb s0 s1 s2 s3 s4 s5 sl
  go_wp2_with fail
  refine HS.out.mono ?_
  rintro e w4 ⟨rfl, hd⟩
  replace B := Lib.hid (thn B.out (hd.below _))
  replace S := S.next (hd.below _)
  clear hd HS
  obtain ⟨s0, s1, s2, s3, s4, s5, sl⟩ := id S
  go_wp2_with fail
  go_ret
  exact ⟨ret_bool (by simp), B.out⟩
theorem closes_ok (a b i k l r : Int) (x : Nat → El) (HA : Hid Wakes)
    (hl : (x 0).l = (x 2).l)
    (HP : Hid (MadeEls 14 #[ptV a b, .int .i64 i, .int .u8 k, .int .i64 l, .int .i64 r] 4 x))
    (HC : Hid (∀ bb ca w, ElsAt w bb 4 x → Calls Try.prog 17 #[.slice (some ⟨bb, 0, none⟩) 4 ca, ptV a b] w fun e w' => e = .returned (.bool true) ∧ Below w.heap.size w w')) (w : World) :
    Calls Try.prog 7 #[.agg #[.int .i64 a, .int .i64 b, .int .i64 i, .int .u8 k, .int .i64 l, .int .i64 r]] w fun e w' => e = .returned (.bool true) ∧ Below w.heap.size w w' := by
  go_enter Try.func7, Try.ntmps7
  go_wp2_with fail
  refine (HA.out _).mono ?_
  rintro e w1 ⟨rfl, hb⟩
  have S := (a6_new w (.int .i64 a) (.int .i64 b) (.int .i64 i) (.int .u8 k) (.int .i64 l) (.int .i64 r) 32).next hb
  have B := Lib.hid (thn (below_alloc1 w _) hb)
  clear hb
  obtain ⟨s0, s1, s2, s3, s4, s5, sl⟩ := id S
  go_wp2_with fail
  refine (HP.out _).mono ?_
  rintro e w2 ⟨⟨b1, hb1, rfl, E1⟩, hb⟩
  have HE1 := Lib.hid E1
  clear E1 hb1
  replace S := S.next hb
  replace B := Lib.hid (thn B.out hb)
  clear hb s0 s1 s2 s3 s4 s5 sl
  obtain ⟨s0, s1, s2, s3, s4, s5, sl⟩ := id S
  go_wp2_with fail
  have q0 := (HE1.out.at_ 0 (by omega)).c10
  have q2 := (HE1.out.at_ 2 (by omega)).c10
  rw [hl] at q0
  simp only [Nat.zero_mul, Nat.zero_add] at q0
  have HC2 := Lib.hid (fun (w' : World) (hb : Below w2.heap.size w2 w') => HC.out b1 4 w' (HE1.out.next hb))
  have hlt := HE1.out.lt
  generalize (x 2).l = L at *
  have L0 : ∀ w', Below w2.heap.size w2 w' → w'.cell? ⟨w.heap.size, 0, none⟩ = some (.int .i64 a) := fun _ h => (S.next h).c0
  have L1 : ∀ w', Below w2.heap.size w2 w' → w'.cell? ⟨w.heap.size, 1, none⟩ = some (.int .i64 b) := fun _ h => (S.next h).c1
  have L2 : ∀ w', Below w2.heap.size w2 w' → w'.cell? ⟨b1, 10, none⟩ = some (.int .i64 L) := fun _ h => (h.cell (p := ⟨b1, 10, none⟩) hlt).trans q0
  have L3 : ∀ w', Below w2.heap.size w2 w' → w'.cell? ⟨b1, 36, none⟩ = some (.int .i64 L) := fun _ h => (h.cell (p := ⟨b1, 36, none⟩) hlt).trans q2
  clear HE1 HC q0 q2 S hl hlt s0 s1 s2 s3 s4 s5 sl
  go_region_held3 (fun w' => Below w2.heap.size w2 w') (first | with_reducible exact bdrew _ | with_reducible exact hS1)
    (first | (go_at_call 17; with_reducible refine (HC2.out _ (bdrew _)).mono ?_; rintro e x1 ⟨rfl, hb1⟩; have hS1 := thn (bdrew w2) hb1))
  replace B := Lib.hid (thn B.out hS1)
  clear L0 L1 L2 L3 hS1 hb1
  go_wp2_with fail
  go_ret
  exact ⟨rfl, B.out⟩
theorem closes_no (a b i k l r E : Int) (HA : Hid Wakes)
    (HE : (E != 0) = true)
    (HP : Hid (NoEls 14 #[ptV a b, .int .i64 i, .int .u8 k, .int .i64 l, .int .i64 r] E)) (w : World) :
    Calls Try.prog 7 #[.agg #[.int .i64 a, .int .i64 b, .int .i64 i, .int .u8 k, .int .i64 l, .int .i64 r]] w fun e w' => e = .returned (.bool true) ∧ Below w.heap.size w w' := by
  go_enter Try.func7, Try.ntmps7
  go_wp2_with fail
  refine (HA.out _).mono ?_
  rintro e w1 ⟨rfl, hb⟩
  have S := (a6_new w (.int .i64 a) (.int .i64 b) (.int .i64 i) (.int .u8 k) (.int .i64 l) (.int .i64 r) 32).next hb
  have B := Lib.hid (thn (below_alloc1 w _) hb)
  clear hb
  obtain ⟨s0, s1, s2, s3, s4, s5, sl⟩ := id S
  go_wp2_with fail
  refine (HP.out _).mono ?_
  rintro e w2 ⟨rfl, hb⟩
  replace S := S.next hb
  replace B := Lib.hid (thn B.out hb)
  clear hb s0 s1 s2 s3 s4 s5 sl
  obtain ⟨s0, s1, s2, s3, s4, s5, sl⟩ := id S
  go_wp2_with fail
  go_ret
  exact ⟨rfl, B.out⟩
theorem enters_ok (q a b i k l r : Int) (x : Nat → El) (HA : Hid Wakes)
    (hq : (q == 1) = false)
    (HP : Hid (MadeEls 18 #[.int .u8 q, ptV a b, .int .i64 i, .int .u8 k, .int .i64 l, .int .i64 r] 3 x))
    (HR : Hid (MadeEls 19 #[.int .u8 q, ptV a b, .int .i64 i, .int .u8 k, .int .i64 l, .int .i64 r] 3 x))
    (HC : Hid (∀ bb ca w, ElsAt w bb 3 x → Calls Try.prog 17 #[.slice (some ⟨bb, 0, none⟩) 3 ca, ptV a b] w fun e w' => e = .returned (.bool true) ∧ Below w.heap.size w w')) (w : World) :
    Calls Try.prog 8 #[.int .u8 q, .agg #[.int .i64 a, .int .i64 b, .int .i64 i, .int .u8 k, .int .i64 l, .int .i64 r]] w fun e w' => e = .returned (.bool true) ∧ Below w.heap.size w w' := by
  go_enter Try.func8, Try.ntmps8
  go_wp2_with fail
  refine (HA.out _).mono ?_
  rintro e w1 ⟨rfl, hb⟩
  have S := (a6_new w (.int .i64 a) (.int .i64 b) (.int .i64 i) (.int .u8 k) (.int .i64 l) (.int .i64 r) 32).next hb
  have B := Lib.hid (thn (below_alloc1 w _) hb)
  clear hb
  obtain ⟨s0, s1, s2, s3, s4, s5, sl⟩ := id S
  go_wp2_with fail
  refine (HP.out _).mono ?_
  rintro e w2 ⟨⟨b1, hb1, rfl, E1⟩, hb⟩
  have HE1 := Lib.hid E1
  clear E1 hb1
  replace S := S.next hb
  replace B := Lib.hid (thn B.out hb)
  clear hb s0 s1 s2 s3 s4 s5 sl
  obtain ⟨s0, s1, s2, s3, s4, s5, sl⟩ := id S
  go_wp2_with fail
  refine (HR.out _).mono ?_
  rintro e w3 ⟨⟨b2, hb2, rfl, E2⟩, hb⟩
  have E1 := HE1.out.next hb
  have HS := Lib.hid (same_some b1 b2 3 3 3 x w3 E1 E2 (by omega))
  replace HE1 := Lib.hid E1
  replace S := S.next hb
  replace B := Lib.hid (thn B.out hb)
  clear hb hb2 s0 s1 s2 s3 s4 s5 sl E1 E2
  go_wp2_with fail
  refine HS.out.mono ?_
  rintro e w4 ⟨rfl, hd⟩
  replace B := Lib.hid (thn B.out (hd.below _))
  replace S := S.next (hd.below _)
  replace HE1 := Lib.hid (HE1.out.next (hd.below _))
  clear hd HS
  obtain ⟨s0, s1, s2, s3, s4, s5, sl⟩ := id S
  go_wp2_with fail
  refine (HC.out _ _ _ HE1.out).mono ?_
  rintro e w5 ⟨rfl, hb⟩
  replace B := Lib.hid (thn B.out hb)
  replace HE1 := Lib.hid (HE1.out.next hb)
  clear hb S s0 s1 s2 s3 s4 s5 sl
  go_wp2_with fail
  go_ret
  exact ⟨rfl, B.out⟩
theorem enters_d (q a b i k l r : Int) (HA : Hid Wakes)
    (hq : (q == 1) = true)
    (HP : Hid (NoEls 18 #[.int .u8 q, ptV a b, .int .i64 i, .int .u8 k, .int .i64 l, .int .i64 r] 0))
    (HR : Hid (NoEls 19 #[.int .u8 q, ptV a b, .int .i64 i, .int .u8 k, .int .i64 l, .int .i64 r] 0)) (w : World) :
    Calls Try.prog 8 #[.int .u8 q, .agg #[.int .i64 a, .int .i64 b, .int .i64 i, .int .u8 k, .int .i64 l, .int .i64 r]] w fun e w' => e = .returned (.bool true) ∧ Below w.heap.size w w' := by
  go_enter Try.func8, Try.ntmps8
  go_wp2_with fail
  refine (HA.out _).mono ?_
  rintro e w1 ⟨rfl, hb⟩
  have S := (a6_new w (.int .i64 a) (.int .i64 b) (.int .i64 i) (.int .u8 k) (.int .i64 l) (.int .i64 r) 32).next hb
  have B := Lib.hid (thn (below_alloc1 w _) hb)
  clear hb
  obtain ⟨s0, s1, s2, s3, s4, s5, sl⟩ := id S
  go_wp2_with fail
  refine (HP.out _).mono ?_
  rintro e w2 ⟨rfl, hb⟩
  replace S := S.next hb
  replace B := Lib.hid (thn B.out hb)
  clear hb s0 s1 s2 s3 s4 s5 sl
  obtain ⟨s0, s1, s2, s3, s4, s5, sl⟩ := id S
  go_wp2_with fail
  refine (HR.out _).mono ?_
  rintro e w3 ⟨rfl, hb⟩
  have HS := Lib.hid (same_none w3)
  replace S := S.next hb
  replace B := Lib.hid (thn B.out hb)
  clear hb s0 s1 s2 s3 s4 s5 sl
  go_wp2_with fail
  refine HS.out.mono ?_
  rintro e w4 ⟨rfl, hd⟩
  replace B := Lib.hid (thn B.out (hd.below _))
  replace S := S.next (hd.below _)
  clear hd HS
  obtain ⟨s0, s1, s2, s3, s4, s5, sl⟩ := id S
  go_wp2_with fail
  go_ret
  exact ⟨rfl, B.out⟩
theorem enters_no (q a b i k l r E : Int) (HA : Hid Wakes)
    (HE : (E != 0) = true)
    (HP : Hid (NoEls 18 #[.int .u8 q, ptV a b, .int .i64 i, .int .u8 k, .int .i64 l, .int .i64 r] E))
    (HR : Hid (NoEls 19 #[.int .u8 q, ptV a b, .int .i64 i, .int .u8 k, .int .i64 l, .int .i64 r] E)) (w : World) :
    Calls Try.prog 8 #[.int .u8 q, .agg #[.int .i64 a, .int .i64 b, .int .i64 i, .int .u8 k, .int .i64 l, .int .i64 r]] w fun e w' => e = .returned (.bool true) ∧ Below w.heap.size w w' := by
  go_enter Try.func8, Try.ntmps8
  go_wp2_with fail
  refine (HA.out _).mono ?_
  rintro e w1 ⟨rfl, hb⟩
  have S := (a6_new w (.int .i64 a) (.int .i64 b) (.int .i64 i) (.int .u8 k) (.int .i64 l) (.int .i64 r) 32).next hb
  have B := Lib.hid (thn (below_alloc1 w _) hb)
  clear hb
  obtain ⟨s0, s1, s2, s3, s4, s5, sl⟩ := id S
  go_wp2_with fail
  refine (HP.out _).mono ?_
  rintro e w2 ⟨rfl, hb⟩
  replace S := S.next hb
  replace B := Lib.hid (thn B.out hb)
  clear hb s0 s1 s2 s3 s4 s5 sl
  obtain ⟨s0, s1, s2, s3, s4, s5, sl⟩ := id S
  go_wp2_with fail
  refine (HR.out _).mono ?_
  rintro e w3 ⟨rfl, hb⟩
  have HS := Lib.hid (same_none w3)
  replace S := S.next hb
  replace B := Lib.hid (thn B.out hb)
  clear hb s0 s1 s2 s3 s4 s5 sl
  go_wp2_with fail
  refine HS.out.mono ?_
  rintro e w4 ⟨rfl, hd⟩
  replace B := Lib.hid (thn B.out (hd.below _))
  replace S := S.next (hd.below _)
  clear hd HS
  obtain ⟨s0, s1, s2, s3, s4, s5, sl⟩ := id S
  go_wp2_with fail
  go_ret
  exact ⟨rfl, B.out⟩
theorem reverses_ok (a b i k l r : Int) (x : Nat → El) (HA : Hid Wakes)
    (HP : Hid (MadeEls 20 #[ptV a b, .int .i64 i, .int .u8 k, .int .i64 l, .int .i64 r] 5 x))
    (HR : Hid (MadeEls 21 #[ptV a b, .int .i64 i, .int .u8 k, .int .i64 l, .int .i64 r] 5 x))
    (HC : Hid (∀ bb ca w, ElsAt w bb 5 x → Calls Try.prog 17 #[.slice (some ⟨bb, 0, none⟩) 5 ca, ptV a b] w fun e w' => e = .returned (.bool true) ∧ Below w.heap.size w w')) (w : World) :
    Calls Try.prog 9 #[.agg #[.int .i64 a, .int .i64 b, .int .i64 i, .int .u8 k, .int .i64 l, .int .i64 r]] w fun e w' => e = .returned (.bool true) ∧ Below w.heap.size w w' := by
  go_enter Try.func9, Try.ntmps9
  go_wp2_with fail
  refine (HA.out _).mono ?_
  rintro e w1 ⟨rfl, hb⟩
  have S := (a6_new w (.int .i64 a) (.int .i64 b) (.int .i64 i) (.int .u8 k) (.int .i64 l) (.int .i64 r) 32).next hb
  have B := Lib.hid (thn (below_alloc1 w _) hb)
  clear hb
  obtain ⟨s0, s1, s2, s3, s4, s5, sl⟩ := id S
  go_wp2_with fail
  refine (HP.out _).mono ?_
  rintro e w2 ⟨⟨b1, hb1, rfl, E1⟩, hb⟩
  have HE1 := Lib.hid E1
  clear E1 hb1
  replace S := S.next hb
  replace B := Lib.hid (thn B.out hb)
  clear hb s0 s1 s2 s3 s4 s5 sl
  obtain ⟨s0, s1, s2, s3, s4, s5, sl⟩ := id S
  go_wp2_with fail
  refine (HR.out _).mono ?_
  rintro e w3 ⟨⟨b2, hb2, rfl, E2⟩, hb⟩
  have E1 := HE1.out.next hb
  have HS := Lib.hid (same_some b1 b2 5 5 5 x w3 E1 E2 (by omega))
  replace HE1 := Lib.hid E1
  replace S := S.next hb
  replace B := Lib.hid (thn B.out hb)
  clear hb hb2 s0 s1 s2 s3 s4 s5 sl E1 E2
  go_wp2_with fail
  refine HS.out.mono ?_
  rintro e w4 ⟨rfl, hd⟩
  replace B := Lib.hid (thn B.out (hd.below _))
  replace S := S.next (hd.below _)
  replace HE1 := Lib.hid (HE1.out.next (hd.below _))
  clear hd HS
  obtain ⟨s0, s1, s2, s3, s4, s5, sl⟩ := id S
  go_wp2_with fail
  refine (HC.out _ _ _ HE1.out).mono ?_
  rintro e w5 ⟨rfl, hb⟩
  replace B := Lib.hid (thn B.out hb)
  replace HE1 := Lib.hid (HE1.out.next hb)
  clear hb S s0 s1 s2 s3 s4 s5 sl
  go_wp2_with fail
  go_ret
  exact ⟨rfl, B.out⟩
theorem reverses_no (a b i k l r E : Int) (HA : Hid Wakes)
    (HE : (E != 0) = true)
    (HP : Hid (NoEls 20 #[ptV a b, .int .i64 i, .int .u8 k, .int .i64 l, .int .i64 r] E))
    (HR : Hid (NoEls 21 #[ptV a b, .int .i64 i, .int .u8 k, .int .i64 l, .int .i64 r] E)) (w : World) :
    Calls Try.prog 9 #[.agg #[.int .i64 a, .int .i64 b, .int .i64 i, .int .u8 k, .int .i64 l, .int .i64 r]] w fun e w' => e = .returned (.bool true) ∧ Below w.heap.size w w' := by
  go_enter Try.func9, Try.ntmps9
  go_wp2_with fail
  refine (HA.out _).mono ?_
  rintro e w1 ⟨rfl, hb⟩
  have S := (a6_new w (.int .i64 a) (.int .i64 b) (.int .i64 i) (.int .u8 k) (.int .i64 l) (.int .i64 r) 32).next hb
  have B := Lib.hid (thn (below_alloc1 w _) hb)
  clear hb
  obtain ⟨s0, s1, s2, s3, s4, s5, sl⟩ := id S
  go_wp2_with fail
  refine (HP.out _).mono ?_
  rintro e w2 ⟨rfl, hb⟩
  replace S := S.next hb
  replace B := Lib.hid (thn B.out hb)
  clear hb s0 s1 s2 s3 s4 s5 sl
  obtain ⟨s0, s1, s2, s3, s4, s5, sl⟩ := id S
  go_wp2_with fail
  refine (HR.out _).mono ?_
  rintro e w3 ⟨rfl, hb⟩
  have HS := Lib.hid (same_none w3)
  replace S := S.next hb
  replace B := Lib.hid (thn B.out hb)
  clear hb s0 s1 s2 s3 s4 s5 sl
  go_wp2_with fail
  refine HS.out.mono ?_
  rintro e w4 ⟨rfl, hd⟩
  replace B := Lib.hid (thn B.out (hd.below _))
  replace S := S.next (hd.below _)
  clear hd HS
  obtain ⟨s0, s1, s2, s3, s4, s5, sl⟩ := id S
  go_wp2_with fail
  go_ret
  exact ⟨rfl, B.out⟩
open Go.ChangeShapes Go.WideShapes Go.ChangeAt Go.RowKit Go.Joins Go.Deep
set_option linter.unusedVariables false
theorem array6 {α : Type} {cs : Array α} (h : cs.size = 6) : ∃ c0 c1 c2 c3 c4 c5, cs = #[c0, c1, c2, c3, c4, c5] := by
  obtain ⟨l⟩ := cs
  match l, h with
  | [c0, c1, c2, c3, c4, c5], _ => exact ⟨c0, c1, c2, c3, c4, c5, rfl⟩

section
variable {H : Type} {enc : TypeId × Value → H} {w : World} {base : Nat} {spare : Nat → Bool} {held : Bool}
theorem trod_struct5 {P : Program} {t : TypeId} {f0 f1 f2 f3 f4 : Field} {fuel : Nat} {cs : List Value} {x : DataW H × List MemPlace} (ht : P.underlying t = some (.struct #[f0, f1, f2, f3, f4])) (h : DataW.trod enc P w base spare held fuel t cs = some x) :
    ∃ y0 y1 y2 y3 y4 n, x = (.agg [y0.1, y1.1, y2.1, y3.1, y4.1], y0.2 ++ (y1.2 ++ (y2.2 ++ (y3.2 ++ y4.2)))) ∧ cs.length = P.cellsOf t ∧ DataW.trod enc P w base spare held n f0.type ((cs.drop f0.offset).take (P.cellsOf f0.type)) = some y0 ∧
      DataW.trod enc P w base spare held n f1.type ((cs.drop f1.offset).take (P.cellsOf f1.type)) = some y1 ∧ DataW.trod enc P w base spare held n f2.type ((cs.drop f2.offset).take (P.cellsOf f2.type)) = some y2 ∧
      DataW.trod enc P w base spare held n f3.type ((cs.drop f3.offset).take (P.cellsOf f3.type)) = some y3 ∧ DataW.trod enc P w base spare held n f4.type ((cs.drop f4.offset).take (P.cellsOf f4.type)) = some y4 := by
  obtain ⟨xs, n, _, rfl, hl, hlen, hf⟩ := DataW.trod_struct ht h
  match xs, hlen with
  | [y0, y1, y2, y3, y4], _ => exact ⟨y0, y1, y2, y3, y4, n, by simp, hl, by simpa using hf 0 f0 rfl, by simpa using hf 1 f1 rfl, by simpa using hf 2 f2 rfl, by simpa using hf 3 f3 rfl, by simpa using hf 4 f4 rfl⟩
theorem trod_struct5_mk {P : Program} {t : TypeId} {f0 f1 f2 f3 f4 : Field} {n : Nat} {cs : List Value} {y0 y1 y2 y3 y4 : DataW H × List MemPlace} (ht : P.underlying t = some (.struct #[f0, f1, f2, f3, f4])) (hl : cs.length = P.cellsOf t)
    (h0 : DataW.trod enc P w base spare held n f0.type ((cs.drop f0.offset).take (P.cellsOf f0.type)) = some y0) (h1 : DataW.trod enc P w base spare held n f1.type ((cs.drop f1.offset).take (P.cellsOf f1.type)) = some y1)
    (h2 : DataW.trod enc P w base spare held n f2.type ((cs.drop f2.offset).take (P.cellsOf f2.type)) = some y2) (h3 : DataW.trod enc P w base spare held n f3.type ((cs.drop f3.offset).take (P.cellsOf f3.type)) = some y3)
    (h4 : DataW.trod enc P w base spare held n f4.type ((cs.drop f4.offset).take (P.cellsOf f4.type)) = some y4) :
    DataW.trod enc P w base spare held (n + 1) t cs = some (.agg [y0.1, y1.1, y2.1, y3.1, y4.1], y0.2 ++ (y1.2 ++ (y2.2 ++ (y3.2 ++ y4.2)))) := by
  have := trod_struct_mk (enc := enc) (w := w) (base := base) (spare := spare) (held := held) (n := n) (xs := [y0, y1, y2, y3, y4]) ht hl (by simp [h0, h1, h2, h3, h4])
  simpa using this
theorem ci64 : Try.prog.cellsOf 2 = 1 := by kernel_rfl
theorem cu8 : Try.prog.cellsOf 5 = 1 := by kernel_rfl
theorem cpt : Try.prog.cellsOf 30 = 2 := by kernel_rfl
theorem cargs : Try.prog.cellsOf 32 = 6 := by kernel_rfl
theorem oint {n : Nat} {c : Value} {x : DataW H × List MemPlace} (h : DataW.trod enc Try.prog w base spare held n 2 [c] = some x) :
    ∃ a : Int, c = .int .i64 a ∧ x = (.lit (.int .i64 a), []) ∧ (Lit.int .i64 a).wf = true := by
  obtain ⟨a, ea, rfl, wa⟩ := DataW.trod_int Try.underlying2 h
  simp at ea
  exact ⟨a, ea, rfl, wa⟩
theorem ou8 {n : Nat} {c : Value} {x : DataW H × List MemPlace} (h : DataW.trod enc Try.prog w base spare held n 5 [c] = some x) :
    ∃ a : Int, c = .int .u8 a ∧ x = (.lit (.int .u8 a), []) ∧ (Lit.int .u8 a).wf = true := by
  obtain ⟨a, ea, rfl, wa⟩ := DataW.trod_int Try.underlying5 h
  simp at ea
  exact ⟨a, ea, rfl, wa⟩
theorem opt {n : Nat} {c0 c1 : Value} {x : DataW H × List MemPlace} (h : DataW.trod enc Try.prog w base spare held n 30 [c0, c1] = some x) :
    ∃ a b : Int, c0 = .int .i64 a ∧ c1 = .int .i64 b ∧ x = (.agg [.lit (.int .i64 a), .lit (.int .i64 b)], []) ∧ (Lit.int .i64 a).wf = true ∧ (Lit.int .i64 b).wf = true := by
  obtain ⟨y0, y1, m, rfl, _, h0, h1⟩ := trod_struct2 Try.underlying30 h
  have h0' : DataW.trod enc Try.prog w base spare held m 2 [c0] = some y0 := by simpa [ci64] using h0
  have h1' : DataW.trod enc Try.prog w base spare held m 2 [c1] = some y1 := by simpa [ci64] using h1
  obtain ⟨a, rfl, rfl, wa⟩ := oint h0'
  obtain ⟨b, rfl, rfl, wb⟩ := oint h1'
  exact ⟨a, b, rfl, rfl, rfl, wa, wb⟩
theorem sint {a : Int} (n : Nat) (wa : (Lit.int .i64 a).wf = true) : DataW.trod enc Try.prog w base spare held (n + 1) 2 [.int .i64 a] = some (.lit (.int .i64 a), []) :=
  trod_int_mk n Try.underlying2 wa
theorem su8 {a : Int} (n : Nat) (wa : (Lit.int .u8 a).wf = true) : DataW.trod enc Try.prog w base spare held (n + 1) 5 [.int .u8 a] = some (.lit (.int .u8 a), []) :=
  trod_int_mk n Try.underlying5 wa
theorem spt {a b : Int} (n : Nat) (wa : (Lit.int .i64 a).wf = true) (wb : (Lit.int .i64 b).wf = true) :
    DataW.trod enc Try.prog w base spare held (n + 2) 30 [.int .i64 a, .int .i64 b] = some (.agg [.lit (.int .i64 a), .lit (.int .i64 b)], []) := by
  have := trod_struct2_mk (enc := enc) (P := Try.prog) (w := w) (base := base) (spare := spare) (held := held) (n := n + 1) (cs := [.int .i64 a, .int .i64 b]) (y0 := (.lit (.int .i64 a), [])) (y1 := (.lit (.int .i64 b), [])) Try.underlying30 (by simp [cpt]) (by simpa [ci64] using sint n wa) (by simpa [ci64] using sint n wb)
  simpa using this
theorem oargs {r : Reach} {b0 : Nat} {v : Value} {d : DataW H} {p : List MemPlace} (hv : Value.okWide Try.prog w r b0 32 v) (h : DataW.Trod enc Try.prog w base spare held 32 v d p) :
    ∃ a b c e f g : Int, v = .agg #[.int .i64 a, .int .i64 b, .int .i64 c, .int .u8 e, .int .i64 f, .int .i64 g] ∧ d = .agg [.agg [.lit (.int .i64 a), .lit (.int .i64 b)], .lit (.int .i64 c), .lit (.int .u8 e), .lit (.int .i64 f), .lit (.int .i64 g)] ∧ p = [] ∧
      (Lit.int .i64 a).wf = true ∧ (Lit.int .i64 b).wf = true ∧ (Lit.int .i64 c).wf = true ∧ (Lit.int .u8 e).wf = true ∧ (Lit.int .i64 f).wf = true ∧ (Lit.int .i64 g).wf = true := by
  obtain ⟨cs, rfl, hsz⟩ := okWide_struct Try.underlying32 hv
  obtain ⟨c0, c1, c2, c3, c4, c5, rfl⟩ := array6 (hsz.trans cargs)
  obtain ⟨fuel, hf⟩ := h
  obtain ⟨y0, y1, y2, y3, y4, n, hx, _, h0, h1, h2, h3, h4⟩ := trod_struct5 Try.underlying32 hf
  have h0' : DataW.trod enc Try.prog w base spare held n 30 [c0, c1] = some y0 := by simpa [Value.cells, cpt] using h0
  have h1' : DataW.trod enc Try.prog w base spare held n 2 [c2] = some y1 := by simpa [Value.cells, ci64] using h1
  have h2' : DataW.trod enc Try.prog w base spare held n 5 [c3] = some y2 := by simpa [Value.cells, cu8] using h2
  have h3' : DataW.trod enc Try.prog w base spare held n 2 [c4] = some y3 := by simpa [Value.cells, ci64] using h3
  have h4' : DataW.trod enc Try.prog w base spare held n 2 [c5] = some y4 := by simpa [Value.cells, ci64] using h4
  obtain ⟨a, b, rfl, rfl, rfl, wa, wb⟩ := opt h0'
  obtain ⟨c, rfl, rfl, wc⟩ := oint h1'
  obtain ⟨e, rfl, rfl, we⟩ := ou8 h2'
  obtain ⟨f, rfl, rfl, wf⟩ := oint h3'
  obtain ⟨g, rfl, rfl, wg⟩ := oint h4'
  simp only [Prod.mk.injEq] at hx
  exact ⟨a, b, c, e, f, g, rfl, hx.1, by simpa using hx.2, wa, wb, wc, we, wf, wg⟩
theorem sargs {a b c e f g : Int} (wa : (Lit.int .i64 a).wf = true) (wb : (Lit.int .i64 b).wf = true) (wc : (Lit.int .i64 c).wf = true) (we : (Lit.int .u8 e).wf = true) (wf : (Lit.int .i64 f).wf = true) (wg : (Lit.int .i64 g).wf = true) :
    DataW.Trod enc Try.prog w base spare held 32 (.agg #[.int .i64 a, .int .i64 b, .int .i64 c, .int .u8 e, .int .i64 f, .int .i64 g]) (.agg [.agg [.lit (.int .i64 a), .lit (.int .i64 b)], .lit (.int .i64 c), .lit (.int .u8 e), .lit (.int .i64 f), .lit (.int .i64 g)]) [] := by
  have ts := trod_struct5_mk (enc := enc) (P := Try.prog) (w := w) (base := base) (spare := spare) (held := held) (n := 2) (cs := [.int .i64 a, .int .i64 b, .int .i64 c, .int .u8 e, .int .i64 f, .int .i64 g]) (y0 := (.agg [.lit (.int .i64 a), .lit (.int .i64 b)], [])) (y1 := (.lit (.int .i64 c), [])) (y2 := (.lit (.int .u8 e), [])) (y3 := (.lit (.int .i64 f), [])) (y4 := (.lit (.int .i64 g), [])) Try.underlying32 (by simp [cargs]) (by simpa [cpt] using spt 0 wa wb) (by simpa [ci64] using sint 1 wc) (by simpa [cu8] using su8 1 we) (by simpa [ci64] using sint 1 wf) (by simpa [ci64] using sint 1 wg)
  exact ⟨_, by simpa [Value.cells] using ts⟩
end
open Go.RowKit Go.Joins Fdk
set_option linter.unusedVariables false
set_option maxHeartbeats 8000000 in
theorem rayh_any (a b c d : Int) (bk : Nat) (bad : Bool) (w : World) (T : C1 w bk (.bool bad)) :
    Calls Try.prog 36 #[ptV a b, .int .i64 c, .int .i64 d, .pointer (some ⟨bk, 0, none⟩)] w fun e w' => e = .returned (ptV (rayv a b c d).1 (rayv a b c d).2.1) ∧ C1 w' bk (.bool (bad || (rayv a b c d).2.2 != 0)) ∧ Bex bk w w' := by
  have HR := Lib.hid (fun w => ray_any a b c d w)
  generalize rayv a b c d = R at *
  obtain ⟨X, Y, E⟩ := R
  have hbk := T.lt
  have HNZ := Lib.hid (show w.heap.size + 1 ≠ bk by omega)
  have HNQ := Lib.hid (show ∀ w1 : World, w.heap.size + 2 ≤ w1.heap.size → bk ≠ w1.heap.size by intro w1 h; omega)
  clear hbk
  go_enter Try.func36, Try.ntmps36
  go_wp2_with fail
  refine (HR.out _).mono ?_
  rintro e w1 ⟨rfl, hb⟩
  have B := alc (thn (below_alloc2 w _ _) hb) (.cells #[.int .i64 X, .int .i64 Y] 30)
  replace T := (((T.alc (.cells #[.int .i64 a, .int .i64 b] 30)).alc (.cells #[.int .i64 0, .int .i64 0] 30)).next hb).alc (.cells #[.int .i64 X, .int .i64 Y] 30)
  have Q := c2_new w1 (.int .i64 X) (.int .i64 Y) 30
  have Z := (c2_new (w.alloc (.cells #[.int .i64 a, .int .i64 b] 30)) (.int .i64 0) (.int .i64 0) 30).next hb
  simp only [World.alloc, Array.size_push] at Z
  have HS := Lib.hid (show w.heap.size + 2 ≤ w1.heap.size by have := hb.size; simp at this; omega)
  clear hb
  have hbz : w.heap.size + 1 ≠ bk := HNZ.out
  have hbq : bk ≠ w1.heap.size := HNQ.out w1 HS.out
  have hbq' : w1.heap.size ≠ bk := fun h => hbq h.symm
  replace Z := Z.alc (.cells #[.int .i64 X, .int .i64 Y] 30)
  clear HS
  obtain ⟨t0, t1, tl⟩ := id T
  obtain ⟨q0, q1, q2, q3, ql⟩ := id Q
  obtain ⟨z0, z1, z2, z3, zl⟩ := id Z
  cases bad
  · go_wp2_with fail
    have Z5 := (Z.else (p := ⟨bk, 0, none⟩) (fun h => hbz h.symm) (.bool (E != 0))).put (.int .i64 X) (.int .i64 Y)
    have T5 := ((T.put0 (.bool (E != 0))).else (p := ⟨w.heap.size + 1, 0, none⟩) hbz (.int .i64 X)).else (p := ⟨w.heap.size + 1, 1, none⟩) hbz (.int .i64 Y)
    have B5 := ((bex_put (bk := bk) B ⟨bk, 0, none⟩ rfl (.bool (E != 0))).set (p := ⟨w.heap.size + 1, 0, none⟩) (Nat.le_succ _) (.int .i64 X)).set (p := ⟨w.heap.size + 1, 1, none⟩) (Nat.le_succ _) (.int .i64 Y)
    obtain ⟨z0, z1, z2, z3, zl⟩ := Z5
    exact bodyPost_ret (v := ptV X Y) (by simp [results, Try.results36, go_sem, z0, z1]) rfl ⟨rfl, T5, B5⟩
  · go_wp2_with fail
    have Z5 := (Z.else (p := ⟨bk, 0, none⟩) (fun h => hbz h.symm) (.bool true)).put (.int .i64 X) (.int .i64 Y)
    have T5 := ((T.put0 (.bool true)).else (p := ⟨w.heap.size + 1, 0, none⟩) hbz (.int .i64 X)).else (p := ⟨w.heap.size + 1, 1, none⟩) hbz (.int .i64 Y)
    have B5 := ((bex_put (bk := bk) B ⟨bk, 0, none⟩ rfl (.bool true)).set (p := ⟨w.heap.size + 1, 0, none⟩) (Nat.le_succ _) (.int .i64 X)).set (p := ⟨w.heap.size + 1, 1, none⟩) (Nat.le_succ _) (.int .i64 Y)
    obtain ⟨z0, z1, z2, z3, zl⟩ := Z5
    exact bodyPost_ret (v := ptV X Y) (by simp [results, Try.results36, go_sem, z0, z1]) rfl ⟨rfl, T5, B5⟩
def rng3 (i l r : Int) : Bool := decide (0 ≤ i) && (decide (i < 129600000) && (decide (1 ≤ l) && (decide (l ≤ 2000000) && (decide (1 ≤ r) && decide (r ≤ 666666)))))
theorem rng3_of {i l r : Int} (h : rng3 i l r = true) : (0 ≤ i ∧ i < 129600000) ∧ (1 ≤ l ∧ l ≤ 2000000) ∧ 1 ≤ r ∧ r ≤ 666666 := by
  unfold rng3 at h; simp at h; omega
theorem rng3_cases {i l r : Int} (h : rng3 i l r = false) : (i < 0) ∨ ((¬ i < 0) ∧ i ≥ 129600000) ∨ ((¬ i < 0) ∧ (¬ i ≥ 129600000) ∧ l < 1) ∨ ((¬ i < 0) ∧ (¬ i ≥ 129600000) ∧ (¬ l < 1) ∧ l > 2000000) ∨ ((¬ i < 0) ∧ (¬ i ≥ 129600000) ∧ (¬ l < 1) ∧ (¬ l > 2000000) ∧ r < 1) ∨ ((¬ i < 0) ∧ (¬ i ≥ 129600000) ∧ (¬ l < 1) ∧ (¬ l > 2000000) ∧ (¬ r < 1) ∧ r > 666666) := by
  by_cases h0 : i < 0
  · exact .inl h0
  by_cases h1 : i ≥ 129600000
  · exact .inr (.inl ⟨h0, h1⟩)
  by_cases h2 : l < 1
  · exact .inr (.inr (.inl ⟨h0, h1, h2⟩))
  by_cases h3 : l > 2000000
  · exact .inr (.inr (.inr (.inl ⟨h0, h1, h2, h3⟩)))
  by_cases h4 : r < 1
  · exact .inr (.inr (.inr (.inr (.inl ⟨h0, h1, h2, h3, h4⟩))))
  by_cases h5 : r > 666666
  · exact .inr (.inr (.inr (.inr (.inr ⟨h0, h1, h2, h3, h4, h5⟩))))
  exfalso
  unfold rng3 at h; simp at h; omega
set_option maxRecDepth 8000 in
set_option maxHeartbeats 16000000 in
theorem rvh_a (a b i k l r : Int) (w : World) (h : pvd a b = false) : Calls Try.prog 20 #[ptV a b, .int .i64 i, .int .u8 k, .int .i64 l, .int .i64 r] w fun e w' => e = .returned (.tuple #[.slice none 0 0, .int .i64 1]) ∧ Below w.heap.size w w' := by
  have HV := Lib.hid h
  clear h
  go_enter Try.func20, Try.ntmps20
  go_wp2_with fail
  refine (pvalid_any _ _ _).mono ?_
  rintro e w1 ⟨rfl, hb⟩
  rw [HV.out]
  have B := Lib.hid (thn (below_alloc1 w _) hb)
  clear hb
  go_wp2_with fail
  go_ret2
  exact ⟨rfl, B.out⟩
set_option maxRecDepth 8000 in
set_option maxHeartbeats 16000000 in
theorem rvh_b (a b i k l r : Int) (w : World) (h : pvd a b = true) (k1 : ¬ k = 1) (k2 : ¬ k = 2) : Calls Try.prog 20 #[ptV a b, .int .i64 i, .int .u8 k, .int .i64 l, .int .i64 r] w fun e w' => e = .returned (.tuple #[.slice none 0 0, .int .i64 1]) ∧ Below w.heap.size w w' := by
  have HV := Lib.hid h
  clear h
  have n1 : (k != 1) = true := by simp [k1]
  have n2 : (k != 2) = true := by simp [k2]
  go_enter Try.func20, Try.ntmps20
  go_wp2_with fail
  refine (pvalid_any _ _ _).mono ?_
  rintro e w1 ⟨rfl, hb⟩
  rw [HV.out]
  have B := Lib.hid (thn (below_alloc1 w _) hb)
  clear hb
  go_wp2_with fail
  go_ret2
  exact ⟨rfl, B.out⟩
set_option maxRecDepth 8000 in
set_option maxHeartbeats 16000000 in
theorem rvh_r1 (a b i l r : Int) (w : World) (h : pvd a b = true) (hr : rng3 i l r = false) : Calls Try.prog 20 #[ptV a b, .int .i64 i, .int .u8 1, .int .i64 l, .int .i64 r] w fun e w' => e = .returned (.tuple #[.slice none 0 0, .int .i64 2]) ∧ Below w.heap.size w w' := by
  have HV := Lib.hid h
  clear h
  rcases rng3_cases hr with g0 | ⟨g0, g1⟩ | ⟨g0, g1, g2⟩ | ⟨g0, g1, g2, g3⟩ | ⟨g0, g1, g2, g3, g4⟩ | ⟨g0, g1, g2, g3, g4, g5⟩
  all_goals
    clear hr
    go_enter Try.func20, Try.ntmps20
    go_wp2_with fail
    refine (pvalid_any _ _ _).mono ?_
    rintro e w1 ⟨rfl, hb⟩
    rw [HV.out]
    have B := Lib.hid (thn (below_alloc1 w _) hb)
    clear hb
    go_wp2_with fail
    go_ret2
    exact ⟨rfl, B.out⟩
set_option maxRecDepth 8000 in
set_option maxHeartbeats 16000000 in
theorem rvh_r2 (a b i l r : Int) (w : World) (h : pvd a b = true) (hr : rng3 i l r = false) : Calls Try.prog 20 #[ptV a b, .int .i64 i, .int .u8 2, .int .i64 l, .int .i64 r] w fun e w' => e = .returned (.tuple #[.slice none 0 0, .int .i64 2]) ∧ Below w.heap.size w w' := by
  have HV := Lib.hid h
  clear h
  rcases rng3_cases hr with g0 | ⟨g0, g1⟩ | ⟨g0, g1, g2⟩ | ⟨g0, g1, g2, g3⟩ | ⟨g0, g1, g2, g3, g4⟩ | ⟨g0, g1, g2, g3, g4, g5⟩
  all_goals
    clear hr
    go_enter Try.func20, Try.ntmps20
    go_wp2_with fail
    refine (pvalid_any _ _ _).mono ?_
    rintro e w1 ⟨rfl, hb⟩
    rw [HV.out]
    have B := Lib.hid (thn (below_alloc1 w _) hb)
    clear hb
    go_wp2_with fail
    go_ret2
    exact ⟨rfl, B.out⟩
set_option maxRecDepth 8000 in
set_option maxHeartbeats 16000000 in
theorem rvr_a (a b i k l r : Int) (w : World) (h : pvd a b = false) : Calls Try.prog 21 #[ptV a b, .int .i64 i, .int .u8 k, .int .i64 l, .int .i64 r] w fun e w' => e = .returned (.tuple #[.slice none 0 0, .int .i64 1]) ∧ Below w.heap.size w w' := by
  have HV := Lib.hid h
  clear h
  go_enter Try.func21, Try.ntmps21
  go_wp2_with fail
  refine (rpvalid_any _ _ _).mono ?_
  rintro e w1 ⟨rfl, hb⟩
  rw [HV.out]
  have B := Lib.hid (thn (below_alloc1 w _) hb)
  clear hb
  go_wp2_with fail
  go_ret2
  exact ⟨rfl, B.out⟩
set_option maxRecDepth 8000 in
set_option maxHeartbeats 16000000 in
theorem rvr_b (a b i k l r : Int) (w : World) (h : pvd a b = true) (k1 : ¬ k = 1) (k2 : ¬ k = 2) : Calls Try.prog 21 #[ptV a b, .int .i64 i, .int .u8 k, .int .i64 l, .int .i64 r] w fun e w' => e = .returned (.tuple #[.slice none 0 0, .int .i64 1]) ∧ Below w.heap.size w w' := by
  have HV := Lib.hid h
  clear h
  have n1 : (k != 1) = true := by simp [k1]
  have n2 : (k != 2) = true := by simp [k2]
  go_enter Try.func21, Try.ntmps21
  go_wp2_with fail
  refine (rpvalid_any _ _ _).mono ?_
  rintro e w1 ⟨rfl, hb⟩
  rw [HV.out]
  have B := Lib.hid (thn (below_alloc1 w _) hb)
  clear hb
  go_wp2_with fail
  go_ret2
  exact ⟨rfl, B.out⟩
set_option maxRecDepth 8000 in
set_option maxHeartbeats 16000000 in
theorem rvr_r1 (a b i l r : Int) (w : World) (h : pvd a b = true) (hr : rng3 i l r = false) : Calls Try.prog 21 #[ptV a b, .int .i64 i, .int .u8 1, .int .i64 l, .int .i64 r] w fun e w' => e = .returned (.tuple #[.slice none 0 0, .int .i64 2]) ∧ Below w.heap.size w w' := by
  have HV := Lib.hid h
  clear h
  rcases rng3_cases hr with g0 | ⟨g0, g1⟩ | ⟨g0, g1, g2⟩ | ⟨g0, g1, g2, g3⟩ | ⟨g0, g1, g2, g3, g4⟩ | ⟨g0, g1, g2, g3, g4, g5⟩
  all_goals
    clear hr
    go_enter Try.func21, Try.ntmps21
    go_wp2_with fail
    refine (rpvalid_any _ _ _).mono ?_
    rintro e w1 ⟨rfl, hb⟩
    rw [HV.out]
    have B := Lib.hid (thn (below_alloc1 w _) hb)
    clear hb
    go_wp2_with fail
    go_ret2
    exact ⟨rfl, B.out⟩
set_option maxRecDepth 8000 in
set_option maxHeartbeats 16000000 in
theorem rvr_r2 (a b i l r : Int) (w : World) (h : pvd a b = true) (hr : rng3 i l r = false) : Calls Try.prog 21 #[ptV a b, .int .i64 i, .int .u8 2, .int .i64 l, .int .i64 r] w fun e w' => e = .returned (.tuple #[.slice none 0 0, .int .i64 2]) ∧ Below w.heap.size w w' := by
  have HV := Lib.hid h
  clear h
  rcases rng3_cases hr with g0 | ⟨g0, g1⟩ | ⟨g0, g1, g2⟩ | ⟨g0, g1, g2, g3⟩ | ⟨g0, g1, g2, g3, g4⟩ | ⟨g0, g1, g2, g3, g4, g5⟩
  all_goals
    clear hr
    go_enter Try.func21, Try.ntmps21
    go_wp2_with fail
    refine (rpvalid_any _ _ _).mono ?_
    rintro e w1 ⟨rfl, hb⟩
    rw [HV.out]
    have B := Lib.hid (thn (below_alloc1 w _) hb)
    clear hb
    go_wp2_with fail
    go_ret2
    exact ⟨rfl, B.out⟩
open Go.RowKit Go.Joins Fdk
set_option linter.unusedVariables false
def rvS (k : Int) : Int := if k = 2 then -64800000 else 64800000
/-- the elements of a procedure turn. -/
def revE (a b qx qy sx sy cx cy tx ty mx my r n s : Int) : Nat → El := el5 (lineE a b qx qy) (lineE qx qy sx sy) (arcE sx sy tx ty cx cy r (n + 64800000) s) (lineE tx ty mx my) (lineE mx my a b)
/-- how a procedure turn in range ends. -/
def RevEnd (bv : Bool) (x : Nat → El) (w : World) (e : Ending) (w' : World) : Prop :=
  (if bv = true then e = .returned (.tuple #[.slice none 0 0, .int .i64 2]) else ∃ bb, w.heap.size ≤ bb ∧ e = .returned (.tuple #[.slice (some ⟨bb, 0, none⟩) 5 5, .int .i64 0]) ∧ ElsAt w' bb 5 x) ∧ Below w.heap.size w w'
theorem rm_b {r : Int} (h0 : 1 ≤ r) (h1 : r ≤ 666666) : 0 ≤ qnear (2 * r * 1414213562) 1000000000 ∧ qnear (2 * r * 1414213562) 1000000000 ≤ 2000000 := by
  unfold qnear; omega
set_option maxRecDepth 8000 in
set_option maxHeartbeats 16000000 in
theorem rvh_t1 (a b i l r qx qy sx sy cx cy tx ty mx my m E0 E1 E2 E3 E4 : Int) (bv : Bool) (w : World) (h : pvd a b = true) (hr : rng3 i l r = true) (hm : qnear (2 * r * 1414213562) 1000000000 = m)
    (hQ : rayv a b i l = (qx, qy, E0)) (hS : rayv qx qy (i - 16200000) (3 * r) = (sx, sy, E1)) (hC : rayv sx sy (i + 16200000) r = (cx, cy, E2)) (hT : rayv sx sy (i + 16200000) (2 * r) = (tx, ty, E3)) (hM : rayv qx qy i m = (mx, my, E4))
    (hE : (E0 != 0 || E1 != 0 || E2 != 0 || E3 != 0 || E4 != 0) = bv) :
    Calls Try.prog 20 #[ptV a b, .int .i64 i, .int .u8 1, .int .i64 l, .int .i64 r] w fun e w' => RevEnd bv (revE a b qx qy sx sy cx cy tx ty mx my r (i + 16200000) (64800000)) w e w' := by
  obtain ⟨⟨i0, i1⟩, ⟨l0, l1⟩, r0, r1⟩ := rng3_of hr
  have HV := Lib.hid h
  clear h hr
  obtain ⟨m0, m1⟩ := rm_b r0 r1
  rw [hm] at m0 m1
  have HRo := Lib.hid (fun w => fround_any (2 * r * 1414213562) 1000000000 w (by omega) (by omega) (by omega) (by omega))
  rw [hm] at HRo
  have HQT := Lib.hid (fun w => quarter_h 1 w)
  rw [show (if (1 : Int) = 2 then (32400000 : Int) else -32400000) = -32400000 by decide] at HQT
  have e0 : IntKind.i64.wrap (i + -16200000) = i - 16200000 := IntWalk.i64_in _ (by omega)
  have e1 : IntKind.i64.wrap (i - 16200000 - -32400000) = i + 16200000 := (IntWalk.i64_in _ (by omega)).trans (by omega)
  have e1' : IntKind.i64.wrap (i - 16200000 + 32400000) = i + 16200000 := (IntWalk.i64_in _ (by omega)).trans (by omega)
  have e2 : IntKind.i64.wrap (2 * r) = 2 * r := IntWalk.i64_in _ (by omega)
  have e3 : IntKind.i64.wrap (2 * r * 1414213562) = 2 * r * 1414213562 := IntWalk.i64_in _ (by omega)
  have e4 : IntKind.i64.wrap (3 * r) = 3 * r := IntWalk.i64_in _ (by omega)
  have e5 : IntKind.i64.wrap (i + 16200000 + 64800000) = i + 16200000 + 64800000 := IntWalk.i64_in _ (by omega)
  have e6 : IntKind.i64.wrap (64800000) = 64800000 := IntWalk.i64_in _ (by decide)
  have e7 : IntKind.i64.wrap (-64800000) = -64800000 := IntWalk.i64_in _ (by decide)
  have g0 : ¬ i < 0 := by omega
  have g1 : ¬ i ≥ 129600000 := by omega
  have g2 : ¬ l < 1 := by omega
  have g3 : ¬ l > 2000000 := by omega
  have g4 : ¬ r < 1 := by omega
  have g5 : ¬ r > 666666 := by omega
  clear i0 i1 l0 l1 r0 r1 m0 m1 hm
  have HR0 := Lib.hid (fun bk o w K => rayh_any a b i l bk o w K)
  rw [hQ] at HR0
  have HR1 := Lib.hid (fun bk o w K => rayh_any qx qy (i - 16200000) (3 * r) bk o w K)
  rw [hS] at HR1
  have HR2 := Lib.hid (fun bk o w K => rayh_any sx sy (i + 16200000) r bk o w K)
  rw [hC] at HR2
  have HR3 := Lib.hid (fun bk o w K => rayh_any sx sy (i + 16200000) (2 * r) bk o w K)
  rw [hT] at HR3
  have HR4 := Lib.hid (fun bk o w K => rayh_any qx qy i m bk o w K)
  rw [hM] at HR4
  have HE := Lib.hid hE
  clear hQ hS hC hT hM hE
  have HA1 := Lib.hid (fun w => straight_any a b qx qy w)
  have HA2 := Lib.hid (fun w => straight_any qx qy sx sy w)
  have HA3 := Lib.hid (fun w => arc_any sx sy tx ty cx cy r (i + 16200000 + 64800000) (64800000) w)
  have HA4 := Lib.hid (fun w => straight_any tx ty mx my w)
  have HA5 := Lib.hid (fun w => straight_any mx my a b w)
  obtain ⟨F3, hF3⟩ : ∃ F, F = (i + 16200000 + 64800000) % 129600000 := ⟨_, rfl⟩
  obtain ⟨D1, hD1⟩ : ∃ F, F = dst2 a b qx qy := ⟨_, rfl⟩
  obtain ⟨D2, hD2⟩ : ∃ F, F = dst2 qx qy sx sy := ⟨_, rfl⟩
  obtain ⟨D3, hD3⟩ : ∃ F, F = alen cx cy r F3 (64800000) := ⟨_, rfl⟩
  obtain ⟨D4, hD4⟩ : ∃ F, F = dst2 tx ty mx my := ⟨_, rfl⟩
  obtain ⟨D5, hD5⟩ : ∃ F, F = dst2 mx my a b := ⟨_, rfl⟩
  rw [← hD1] at HA1
  rw [← hD2] at HA2
  rw [← hF3, ← hD3] at HA3
  rw [← hD4] at HA4
  rw [← hD5] at HA5
  have HF := Lib.hid (And.intro hF3 (And.intro hD1 (And.intro hD2 (And.intro hD3 (And.intro hD4 hD5)))))
  clear hF3 hD1 hD2 hD3 hD4 hD5
  go_enter Try.func20, Try.ntmps20
  go_wp2_with fail
  refine (pvalid_any _ _ _).mono ?_
  rintro e w1 ⟨rfl, hb⟩
  rw [HV.out]
  have B := thn (below_alloc1 w _) hb
  have T := (c2_new w (.int .i64 a) (.int .i64 b) 30).next hb
  clear hb
  obtain ⟨t0, t1, t2, t3, tl⟩ := id T
  go_wp2_with (first | (go_at_call 34; refine (HQT.out _).mono ?_; rintro e w' ⟨rfl, rfl⟩))
  refine (HRo.out _).mono ?_
  rintro e w2 ⟨rfl, hd⟩
  clear t0 t1 t2 t3 tl
  replace B := (thn B (hd.below _))
  replace T := T.next (hd.below _)
  clear hd
  obtain ⟨t0, t1, t2, t3, tl⟩ := id (T.alc (.cells #[.bool false] 4))
  have K := c1_new w2 (.bool false) 4
  go_wp2_with fail
  clear t0 t1 t2 t3 tl
  replace B := alc B (.cells #[.bool false] 4)
  have hkf : w.heap.size ≠ w2.heap.size := by have := T.lt; omega
  have hkb : w.heap.size ≤ w2.heap.size := by have := T.lt; omega
  replace T := T.alc (.cells #[.bool false] 4)
  generalize w2.alloc (.cells #[.bool false] 4) = v0 at *
  generalize w2.heap.size = bk at *
  refine (HR0.out _ _ _ K).mono ?_
  rintro e w3 ⟨rfl, K2, bx⟩
  replace B := bx.below B hkb
  replace T := T.bex bx hkf
  clear bx K
  have BQ := c2_new w3 (.int .i64 qx) (.int .i64 qy) 30
  have hne0 : w3.heap.size ≠ bk := by have := K2.lt; omega
  replace B := alc B (.cells #[.int .i64 qx, .int .i64 qy] 30)
  have K := K2.alc (.cells #[.int .i64 qx, .int .i64 qy] 30)
  clear K2
  replace T := T.alc (.cells #[.int .i64 qx, .int .i64 qy] 30)
  obtain ⟨t0, t1, t2, t3, tl⟩ := id BQ
  go_wp2_with fail
  clear t0 t1 t2 t3 tl
  generalize w3.alloc (.cells #[.int .i64 qx, .int .i64 qy] 30) = v1 at *
  generalize w3.heap.size = bq at *
  refine (HR1.out _ _ _ K).mono ?_
  rintro e w3 ⟨rfl, K2, bx⟩
  replace B := bx.below B hkb
  replace T := T.bex bx hkf
  replace BQ := BQ.bex bx hne0
  clear bx K
  have BS := c2_new w3 (.int .i64 sx) (.int .i64 sy) 30
  have hne1 : w3.heap.size ≠ bk := by have := K2.lt; omega
  replace B := alc B (.cells #[.int .i64 sx, .int .i64 sy] 30)
  have K := K2.alc (.cells #[.int .i64 sx, .int .i64 sy] 30)
  clear K2
  replace T := T.alc (.cells #[.int .i64 sx, .int .i64 sy] 30)
  replace BQ := BQ.alc (.cells #[.int .i64 sx, .int .i64 sy] 30)
  obtain ⟨t0, t1, t2, t3, tl⟩ := id BS
  go_wp2_with fail
  clear t0 t1 t2 t3 tl
  generalize w3.alloc (.cells #[.int .i64 sx, .int .i64 sy] 30) = v2 at *
  generalize w3.heap.size = bs at *
  refine (HR2.out _ _ _ K).mono ?_
  rintro e w3 ⟨rfl, K2, bx⟩
  replace B := bx.below B hkb
  replace T := T.bex bx hkf
  replace BQ := BQ.bex bx hne0
  replace BS := BS.bex bx hne1
  clear bx K
  have BC := c2_new w3 (.int .i64 cx) (.int .i64 cy) 30
  have hne2 : w3.heap.size ≠ bk := by have := K2.lt; omega
  replace B := alc B (.cells #[.int .i64 cx, .int .i64 cy] 30)
  have K := K2.alc (.cells #[.int .i64 cx, .int .i64 cy] 30)
  clear K2
  replace T := T.alc (.cells #[.int .i64 cx, .int .i64 cy] 30)
  replace BQ := BQ.alc (.cells #[.int .i64 cx, .int .i64 cy] 30)
  replace BS := BS.alc (.cells #[.int .i64 cx, .int .i64 cy] 30)
  obtain ⟨t0, t1, t2, t3, tl⟩ := id BS
  go_wp2_with fail
  clear t0 t1 t2 t3 tl
  generalize w3.alloc (.cells #[.int .i64 cx, .int .i64 cy] 30) = v3 at *
  generalize w3.heap.size = bc at *
  refine (HR3.out _ _ _ K).mono ?_
  rintro e w3 ⟨rfl, K2, bx⟩
  replace B := bx.below B hkb
  replace T := T.bex bx hkf
  replace BQ := BQ.bex bx hne0
  replace BS := BS.bex bx hne1
  replace BC := BC.bex bx hne2
  clear bx K
  have BT := c2_new w3 (.int .i64 tx) (.int .i64 ty) 30
  have hne3 : w3.heap.size ≠ bk := by have := K2.lt; omega
  replace B := alc B (.cells #[.int .i64 tx, .int .i64 ty] 30)
  have K := K2.alc (.cells #[.int .i64 tx, .int .i64 ty] 30)
  clear K2
  replace T := T.alc (.cells #[.int .i64 tx, .int .i64 ty] 30)
  replace BQ := BQ.alc (.cells #[.int .i64 tx, .int .i64 ty] 30)
  replace BS := BS.alc (.cells #[.int .i64 tx, .int .i64 ty] 30)
  replace BC := BC.alc (.cells #[.int .i64 tx, .int .i64 ty] 30)
  obtain ⟨t0, t1, t2, t3, tl⟩ := id BQ
  go_wp2_with fail
  clear t0 t1 t2 t3 tl
  generalize w3.alloc (.cells #[.int .i64 tx, .int .i64 ty] 30) = v4 at *
  generalize w3.heap.size = bt at *
  refine (HR4.out _ _ _ K).mono ?_
  rintro e w3 ⟨rfl, K2, bx⟩
  replace B := bx.below B hkb
  replace T := T.bex bx hkf
  replace BQ := BQ.bex bx hne0
  replace BS := BS.bex bx hne1
  replace BC := BC.bex bx hne2
  replace BT := BT.bex bx hne3
  clear bx K
  have BM := c2_new w3 (.int .i64 mx) (.int .i64 my) 30
  have hne4 : w3.heap.size ≠ bk := by have := K2.lt; omega
  replace B := alc B (.cells #[.int .i64 mx, .int .i64 my] 30)
  have K := K2.alc (.cells #[.int .i64 mx, .int .i64 my] 30)
  clear K2
  replace T := T.alc (.cells #[.int .i64 mx, .int .i64 my] 30)
  replace BQ := BQ.alc (.cells #[.int .i64 mx, .int .i64 my] 30)
  replace BS := BS.alc (.cells #[.int .i64 mx, .int .i64 my] 30)
  replace BC := BC.alc (.cells #[.int .i64 mx, .int .i64 my] 30)
  replace BT := BT.alc (.cells #[.int .i64 mx, .int .i64 my] 30)
  rw [show (false || E0 != 0 || E1 != 0 || E2 != 0 || E3 != 0 || E4 != 0) = bv by rw [Bool.false_or]; exact HE.out] at K
  have k0 := K.c0
  have HB := Lib.hid B
  cases bv
  · go_wp2_with fail
    clear k0 K
    generalize w3.alloc (.cells #[.int .i64 mx, .int .i64 my] 30) = v at *
    generalize w3.heap.size = bm at *
    have L0 : ∀ w', Below v.heap.size v w' → w'.cell? ⟨w.heap.size, 0, none⟩ = some (.int .i64 a) := fun _ h => (T.next h).c0
    have L1 : ∀ w', Below v.heap.size v w' → w'.cell? ⟨w.heap.size, 1, none⟩ = some (.int .i64 b) := fun _ h => (T.next h).c1
    have L2 : ∀ w', Below v.heap.size v w' → w'.cell? ⟨bq, 0, none⟩ = some (.int .i64 qx) := fun _ h => (BQ.next h).c0
    have L3 : ∀ w', Below v.heap.size v w' → w'.cell? ⟨bq, 1, none⟩ = some (.int .i64 qy) := fun _ h => (BQ.next h).c1
    have L4 : ∀ w', Below v.heap.size v w' → w'.cell? ⟨bs, 0, none⟩ = some (.int .i64 sx) := fun _ h => (BS.next h).c0
    have L5 : ∀ w', Below v.heap.size v w' → w'.cell? ⟨bs, 1, none⟩ = some (.int .i64 sy) := fun _ h => (BS.next h).c1
    have L6 : ∀ w', Below v.heap.size v w' → w'.cell? ⟨bc, 0, none⟩ = some (.int .i64 cx) := fun _ h => (BC.next h).c0
    have L7 : ∀ w', Below v.heap.size v w' → w'.cell? ⟨bc, 1, none⟩ = some (.int .i64 cy) := fun _ h => (BC.next h).c1
    have L8 : ∀ w', Below v.heap.size v w' → w'.cell? ⟨bt, 0, none⟩ = some (.int .i64 tx) := fun _ h => (BT.next h).c0
    have L9 : ∀ w', Below v.heap.size v w' → w'.cell? ⟨bt, 1, none⟩ = some (.int .i64 ty) := fun _ h => (BT.next h).c1
    have L10 : ∀ w', Below v.heap.size v w' → w'.cell? ⟨bm, 0, none⟩ = some (.int .i64 mx) := fun _ h => (BM.next h).c0
    have L11 : ∀ w', Below v.heap.size v w' → w'.cell? ⟨bm, 1, none⟩ = some (.int .i64 my) := fun _ h => (BM.next h).c1
    clear T BQ BS BC BT BM B
    go_region_held3 (fun w' => Below v.heap.size v w') (first | with_reducible exact bdrew _ | with_reducible exact hS1 | with_reducible exact hS2 | with_reducible exact hS3 | with_reducible exact hS4 | with_reducible exact hS5 | with_reducible exact alc hS5 _)
      (first | (go_at_call 34; with_reducible refine (HQT.out _).mono ?_; rintro e w' ⟨rfl, rfl⟩) | (go_at_call 25; with_reducible refine (HA1.out _).mono ?_; rintro e x1 ⟨rfl, hb1⟩; have hS1 := thn (bdrew v) hb1) | (go_at_call 25; with_reducible refine (HA2.out _).mono ?_; rintro e x2 ⟨rfl, hb2⟩; have hS2 := thn hS1 hb2) | (go_at_call 24; with_reducible refine (HA3.out _).mono ?_; rintro e x3 ⟨rfl, hb3⟩; have hS3 := thn hS2 hb3) | (go_at_call 25; with_reducible refine (HA4.out _).mono ?_; rintro e x4 ⟨rfl, hb4⟩; have hS4 := thn hS3 hb4) | (go_at_call 25; with_reducible refine (HA5.out _).mono ?_; rintro e x5 ⟨rfl, hb5⟩; have hS5 := thn hS4 hb5))
    clear L0 L1 L2 L3 L4 L5 L6 L7 L8 L9 L10 L11
    obtain ⟨rfl, rfl, rfl, rfl, rfl, rfl⟩ := HF.out
    have B5 := thn HB.out hS5
    have g := els5_new x5 (lineE a b qx qy) (lineE qx qy sx sy) (arcE sx sy tx ty cx cy r (i + 16200000 + 64800000) (64800000)) (lineE tx ty mx my) (lineE mx my a b) 43
    go_wp2_with fail
    go_ret2
    exact ⟨⟨_, B5.size, rfl, g⟩, alc B5 _⟩
  · go_wp2_with fail
    go_ret2
    exact ⟨rfl, HB.out⟩
set_option maxRecDepth 8000 in
set_option maxHeartbeats 16000000 in
theorem rvh_t2 (a b i l r qx qy sx sy cx cy tx ty mx my m E0 E1 E2 E3 E4 : Int) (bv : Bool) (w : World) (h : pvd a b = true) (hr : rng3 i l r = true) (hm : qnear (2 * r * 1414213562) 1000000000 = m)
    (hQ : rayv a b i l = (qx, qy, E0)) (hS : rayv qx qy (i + 16200000) (3 * r) = (sx, sy, E1)) (hC : rayv sx sy (i - 16200000) r = (cx, cy, E2)) (hT : rayv sx sy (i - 16200000) (2 * r) = (tx, ty, E3)) (hM : rayv qx qy i m = (mx, my, E4))
    (hE : (E0 != 0 || E1 != 0 || E2 != 0 || E3 != 0 || E4 != 0) = bv) :
    Calls Try.prog 20 #[ptV a b, .int .i64 i, .int .u8 2, .int .i64 l, .int .i64 r] w fun e w' => RevEnd bv (revE a b qx qy sx sy cx cy tx ty mx my r (i - 16200000) (-64800000)) w e w' := by
  obtain ⟨⟨i0, i1⟩, ⟨l0, l1⟩, r0, r1⟩ := rng3_of hr
  have HV := Lib.hid h
  clear h hr
  obtain ⟨m0, m1⟩ := rm_b r0 r1
  rw [hm] at m0 m1
  have HRo := Lib.hid (fun w => fround_any (2 * r * 1414213562) 1000000000 w (by omega) (by omega) (by omega) (by omega))
  rw [hm] at HRo
  have HQT := Lib.hid (fun w => quarter_h 2 w)
  rw [show (if (2 : Int) = 2 then (32400000 : Int) else -32400000) = 32400000 by decide] at HQT
  have e0 : IntKind.i64.wrap (i + 16200000) = i + 16200000 := IntWalk.i64_in _ (by omega)
  have e1 : IntKind.i64.wrap (i + 16200000 - 32400000) = i - 16200000 := (IntWalk.i64_in _ (by omega)).trans (by omega)
  have e1' : IntKind.i64.wrap (i + 16200000 + -32400000) = i - 16200000 := (IntWalk.i64_in _ (by omega)).trans (by omega)
  have e2 : IntKind.i64.wrap (2 * r) = 2 * r := IntWalk.i64_in _ (by omega)
  have e3 : IntKind.i64.wrap (2 * r * 1414213562) = 2 * r * 1414213562 := IntWalk.i64_in _ (by omega)
  have e4 : IntKind.i64.wrap (3 * r) = 3 * r := IntWalk.i64_in _ (by omega)
  have e5 : IntKind.i64.wrap (i - 16200000 + 64800000) = i - 16200000 + 64800000 := IntWalk.i64_in _ (by omega)
  have e6 : IntKind.i64.wrap (64800000) = 64800000 := IntWalk.i64_in _ (by decide)
  have e7 : IntKind.i64.wrap (-64800000) = -64800000 := IntWalk.i64_in _ (by decide)
  have g0 : ¬ i < 0 := by omega
  have g1 : ¬ i ≥ 129600000 := by omega
  have g2 : ¬ l < 1 := by omega
  have g3 : ¬ l > 2000000 := by omega
  have g4 : ¬ r < 1 := by omega
  have g5 : ¬ r > 666666 := by omega
  clear i0 i1 l0 l1 r0 r1 m0 m1 hm
  have HR0 := Lib.hid (fun bk o w K => rayh_any a b i l bk o w K)
  rw [hQ] at HR0
  have HR1 := Lib.hid (fun bk o w K => rayh_any qx qy (i + 16200000) (3 * r) bk o w K)
  rw [hS] at HR1
  have HR2 := Lib.hid (fun bk o w K => rayh_any sx sy (i - 16200000) r bk o w K)
  rw [hC] at HR2
  have HR3 := Lib.hid (fun bk o w K => rayh_any sx sy (i - 16200000) (2 * r) bk o w K)
  rw [hT] at HR3
  have HR4 := Lib.hid (fun bk o w K => rayh_any qx qy i m bk o w K)
  rw [hM] at HR4
  have HE := Lib.hid hE
  clear hQ hS hC hT hM hE
  have HA1 := Lib.hid (fun w => straight_any a b qx qy w)
  have HA2 := Lib.hid (fun w => straight_any qx qy sx sy w)
  have HA3 := Lib.hid (fun w => arc_any sx sy tx ty cx cy r (i - 16200000 + 64800000) (-64800000) w)
  have HA4 := Lib.hid (fun w => straight_any tx ty mx my w)
  have HA5 := Lib.hid (fun w => straight_any mx my a b w)
  obtain ⟨F3, hF3⟩ : ∃ F, F = (i - 16200000 + 64800000) % 129600000 := ⟨_, rfl⟩
  obtain ⟨D1, hD1⟩ : ∃ F, F = dst2 a b qx qy := ⟨_, rfl⟩
  obtain ⟨D2, hD2⟩ : ∃ F, F = dst2 qx qy sx sy := ⟨_, rfl⟩
  obtain ⟨D3, hD3⟩ : ∃ F, F = alen cx cy r F3 (-64800000) := ⟨_, rfl⟩
  obtain ⟨D4, hD4⟩ : ∃ F, F = dst2 tx ty mx my := ⟨_, rfl⟩
  obtain ⟨D5, hD5⟩ : ∃ F, F = dst2 mx my a b := ⟨_, rfl⟩
  rw [← hD1] at HA1
  rw [← hD2] at HA2
  rw [← hF3, ← hD3] at HA3
  rw [← hD4] at HA4
  rw [← hD5] at HA5
  have HF := Lib.hid (And.intro hF3 (And.intro hD1 (And.intro hD2 (And.intro hD3 (And.intro hD4 hD5)))))
  clear hF3 hD1 hD2 hD3 hD4 hD5
  go_enter Try.func20, Try.ntmps20
  go_wp2_with fail
  refine (pvalid_any _ _ _).mono ?_
  rintro e w1 ⟨rfl, hb⟩
  rw [HV.out]
  have B := thn (below_alloc1 w _) hb
  have T := (c2_new w (.int .i64 a) (.int .i64 b) 30).next hb
  clear hb
  obtain ⟨t0, t1, t2, t3, tl⟩ := id T
  go_wp2_with (first | (go_at_call 34; refine (HQT.out _).mono ?_; rintro e w' ⟨rfl, rfl⟩))
  refine (HRo.out _).mono ?_
  rintro e w2 ⟨rfl, hd⟩
  clear t0 t1 t2 t3 tl
  replace B := (thn B (hd.below _))
  replace T := T.next (hd.below _)
  clear hd
  obtain ⟨t0, t1, t2, t3, tl⟩ := id (T.alc (.cells #[.bool false] 4))
  have K := c1_new w2 (.bool false) 4
  go_wp2_with fail
  clear t0 t1 t2 t3 tl
  replace B := alc B (.cells #[.bool false] 4)
  have hkf : w.heap.size ≠ w2.heap.size := by have := T.lt; omega
  have hkb : w.heap.size ≤ w2.heap.size := by have := T.lt; omega
  replace T := T.alc (.cells #[.bool false] 4)
  generalize w2.alloc (.cells #[.bool false] 4) = v0 at *
  generalize w2.heap.size = bk at *
  refine (HR0.out _ _ _ K).mono ?_
  rintro e w3 ⟨rfl, K2, bx⟩
  replace B := bx.below B hkb
  replace T := T.bex bx hkf
  clear bx K
  have BQ := c2_new w3 (.int .i64 qx) (.int .i64 qy) 30
  have hne0 : w3.heap.size ≠ bk := by have := K2.lt; omega
  replace B := alc B (.cells #[.int .i64 qx, .int .i64 qy] 30)
  have K := K2.alc (.cells #[.int .i64 qx, .int .i64 qy] 30)
  clear K2
  replace T := T.alc (.cells #[.int .i64 qx, .int .i64 qy] 30)
  obtain ⟨t0, t1, t2, t3, tl⟩ := id BQ
  go_wp2_with fail
  clear t0 t1 t2 t3 tl
  generalize w3.alloc (.cells #[.int .i64 qx, .int .i64 qy] 30) = v1 at *
  generalize w3.heap.size = bq at *
  refine (HR1.out _ _ _ K).mono ?_
  rintro e w3 ⟨rfl, K2, bx⟩
  replace B := bx.below B hkb
  replace T := T.bex bx hkf
  replace BQ := BQ.bex bx hne0
  clear bx K
  have BS := c2_new w3 (.int .i64 sx) (.int .i64 sy) 30
  have hne1 : w3.heap.size ≠ bk := by have := K2.lt; omega
  replace B := alc B (.cells #[.int .i64 sx, .int .i64 sy] 30)
  have K := K2.alc (.cells #[.int .i64 sx, .int .i64 sy] 30)
  clear K2
  replace T := T.alc (.cells #[.int .i64 sx, .int .i64 sy] 30)
  replace BQ := BQ.alc (.cells #[.int .i64 sx, .int .i64 sy] 30)
  obtain ⟨t0, t1, t2, t3, tl⟩ := id BS
  go_wp2_with fail
  clear t0 t1 t2 t3 tl
  generalize w3.alloc (.cells #[.int .i64 sx, .int .i64 sy] 30) = v2 at *
  generalize w3.heap.size = bs at *
  refine (HR2.out _ _ _ K).mono ?_
  rintro e w3 ⟨rfl, K2, bx⟩
  replace B := bx.below B hkb
  replace T := T.bex bx hkf
  replace BQ := BQ.bex bx hne0
  replace BS := BS.bex bx hne1
  clear bx K
  have BC := c2_new w3 (.int .i64 cx) (.int .i64 cy) 30
  have hne2 : w3.heap.size ≠ bk := by have := K2.lt; omega
  replace B := alc B (.cells #[.int .i64 cx, .int .i64 cy] 30)
  have K := K2.alc (.cells #[.int .i64 cx, .int .i64 cy] 30)
  clear K2
  replace T := T.alc (.cells #[.int .i64 cx, .int .i64 cy] 30)
  replace BQ := BQ.alc (.cells #[.int .i64 cx, .int .i64 cy] 30)
  replace BS := BS.alc (.cells #[.int .i64 cx, .int .i64 cy] 30)
  obtain ⟨t0, t1, t2, t3, tl⟩ := id BS
  go_wp2_with fail
  clear t0 t1 t2 t3 tl
  generalize w3.alloc (.cells #[.int .i64 cx, .int .i64 cy] 30) = v3 at *
  generalize w3.heap.size = bc at *
  refine (HR3.out _ _ _ K).mono ?_
  rintro e w3 ⟨rfl, K2, bx⟩
  replace B := bx.below B hkb
  replace T := T.bex bx hkf
  replace BQ := BQ.bex bx hne0
  replace BS := BS.bex bx hne1
  replace BC := BC.bex bx hne2
  clear bx K
  have BT := c2_new w3 (.int .i64 tx) (.int .i64 ty) 30
  have hne3 : w3.heap.size ≠ bk := by have := K2.lt; omega
  replace B := alc B (.cells #[.int .i64 tx, .int .i64 ty] 30)
  have K := K2.alc (.cells #[.int .i64 tx, .int .i64 ty] 30)
  clear K2
  replace T := T.alc (.cells #[.int .i64 tx, .int .i64 ty] 30)
  replace BQ := BQ.alc (.cells #[.int .i64 tx, .int .i64 ty] 30)
  replace BS := BS.alc (.cells #[.int .i64 tx, .int .i64 ty] 30)
  replace BC := BC.alc (.cells #[.int .i64 tx, .int .i64 ty] 30)
  obtain ⟨t0, t1, t2, t3, tl⟩ := id BQ
  go_wp2_with fail
  clear t0 t1 t2 t3 tl
  generalize w3.alloc (.cells #[.int .i64 tx, .int .i64 ty] 30) = v4 at *
  generalize w3.heap.size = bt at *
  refine (HR4.out _ _ _ K).mono ?_
  rintro e w3 ⟨rfl, K2, bx⟩
  replace B := bx.below B hkb
  replace T := T.bex bx hkf
  replace BQ := BQ.bex bx hne0
  replace BS := BS.bex bx hne1
  replace BC := BC.bex bx hne2
  replace BT := BT.bex bx hne3
  clear bx K
  have BM := c2_new w3 (.int .i64 mx) (.int .i64 my) 30
  have hne4 : w3.heap.size ≠ bk := by have := K2.lt; omega
  replace B := alc B (.cells #[.int .i64 mx, .int .i64 my] 30)
  have K := K2.alc (.cells #[.int .i64 mx, .int .i64 my] 30)
  clear K2
  replace T := T.alc (.cells #[.int .i64 mx, .int .i64 my] 30)
  replace BQ := BQ.alc (.cells #[.int .i64 mx, .int .i64 my] 30)
  replace BS := BS.alc (.cells #[.int .i64 mx, .int .i64 my] 30)
  replace BC := BC.alc (.cells #[.int .i64 mx, .int .i64 my] 30)
  replace BT := BT.alc (.cells #[.int .i64 mx, .int .i64 my] 30)
  rw [show (false || E0 != 0 || E1 != 0 || E2 != 0 || E3 != 0 || E4 != 0) = bv by rw [Bool.false_or]; exact HE.out] at K
  have k0 := K.c0
  have HB := Lib.hid B
  cases bv
  · go_wp2_with fail
    clear k0 K
    generalize w3.alloc (.cells #[.int .i64 mx, .int .i64 my] 30) = v at *
    generalize w3.heap.size = bm at *
    have L0 : ∀ w', Below v.heap.size v w' → w'.cell? ⟨w.heap.size, 0, none⟩ = some (.int .i64 a) := fun _ h => (T.next h).c0
    have L1 : ∀ w', Below v.heap.size v w' → w'.cell? ⟨w.heap.size, 1, none⟩ = some (.int .i64 b) := fun _ h => (T.next h).c1
    have L2 : ∀ w', Below v.heap.size v w' → w'.cell? ⟨bq, 0, none⟩ = some (.int .i64 qx) := fun _ h => (BQ.next h).c0
    have L3 : ∀ w', Below v.heap.size v w' → w'.cell? ⟨bq, 1, none⟩ = some (.int .i64 qy) := fun _ h => (BQ.next h).c1
    have L4 : ∀ w', Below v.heap.size v w' → w'.cell? ⟨bs, 0, none⟩ = some (.int .i64 sx) := fun _ h => (BS.next h).c0
    have L5 : ∀ w', Below v.heap.size v w' → w'.cell? ⟨bs, 1, none⟩ = some (.int .i64 sy) := fun _ h => (BS.next h).c1
    have L6 : ∀ w', Below v.heap.size v w' → w'.cell? ⟨bc, 0, none⟩ = some (.int .i64 cx) := fun _ h => (BC.next h).c0
    have L7 : ∀ w', Below v.heap.size v w' → w'.cell? ⟨bc, 1, none⟩ = some (.int .i64 cy) := fun _ h => (BC.next h).c1
    have L8 : ∀ w', Below v.heap.size v w' → w'.cell? ⟨bt, 0, none⟩ = some (.int .i64 tx) := fun _ h => (BT.next h).c0
    have L9 : ∀ w', Below v.heap.size v w' → w'.cell? ⟨bt, 1, none⟩ = some (.int .i64 ty) := fun _ h => (BT.next h).c1
    have L10 : ∀ w', Below v.heap.size v w' → w'.cell? ⟨bm, 0, none⟩ = some (.int .i64 mx) := fun _ h => (BM.next h).c0
    have L11 : ∀ w', Below v.heap.size v w' → w'.cell? ⟨bm, 1, none⟩ = some (.int .i64 my) := fun _ h => (BM.next h).c1
    clear T BQ BS BC BT BM B
    go_region_held3 (fun w' => Below v.heap.size v w') (first | with_reducible exact bdrew _ | with_reducible exact hS1 | with_reducible exact hS2 | with_reducible exact hS3 | with_reducible exact hS4 | with_reducible exact hS5 | with_reducible exact alc hS5 _)
      (first | (go_at_call 34; with_reducible refine (HQT.out _).mono ?_; rintro e w' ⟨rfl, rfl⟩) | (go_at_call 25; with_reducible refine (HA1.out _).mono ?_; rintro e x1 ⟨rfl, hb1⟩; have hS1 := thn (bdrew v) hb1) | (go_at_call 25; with_reducible refine (HA2.out _).mono ?_; rintro e x2 ⟨rfl, hb2⟩; have hS2 := thn hS1 hb2) | (go_at_call 24; with_reducible refine (HA3.out _).mono ?_; rintro e x3 ⟨rfl, hb3⟩; have hS3 := thn hS2 hb3) | (go_at_call 25; with_reducible refine (HA4.out _).mono ?_; rintro e x4 ⟨rfl, hb4⟩; have hS4 := thn hS3 hb4) | (go_at_call 25; with_reducible refine (HA5.out _).mono ?_; rintro e x5 ⟨rfl, hb5⟩; have hS5 := thn hS4 hb5))
    clear L0 L1 L2 L3 L4 L5 L6 L7 L8 L9 L10 L11
    obtain ⟨rfl, rfl, rfl, rfl, rfl, rfl⟩ := HF.out
    have B5 := thn HB.out hS5
    have g := els5_new x5 (lineE a b qx qy) (lineE qx qy sx sy) (arcE sx sy tx ty cx cy r (i - 16200000 + 64800000) (-64800000)) (lineE tx ty mx my) (lineE mx my a b) 43
    go_wp2_with fail
    go_ret2
    exact ⟨⟨_, B5.size, rfl, g⟩, alc B5 _⟩
  · go_wp2_with fail
    go_ret2
    exact ⟨rfl, HB.out⟩
open Go.RowKit Go.Joins Fdk
set_option linter.unusedVariables false
theorem rmdr_any (a b c : Int) (w : World) (a0 : 0 ≤ a) (a1 : a ≤ 2000000) (b0 : 0 ≤ b) (b1 : b ≤ 2147483648) (c0 : 1 ≤ c) (c1 : c ≤ 8589934592) :
    Calls Try.prog 40 #[.int .i64 a, .int .i64 b, .int .i64 c] w fun e w' => e = TwoI (qnear (a * b) c) 0 ∧ w = w' := by
  have i1 : iabs a = a := by unfold iabs; rw [if_neg (by omega)]
  have i2 : iabs b = b := by unfold iabs; rw [if_neg (by omega)]
  have k0 : 0 ≤ a * b := Int.mul_nonneg a0 b0
  have k1 : a * b / c ≤ a * b := Int.ediv_le_self _ k0
  have k2 := pb (p := a) (q := b) (A := 2000000) (B := 2147483648) 4294967296000000 (by omega) (by omega) (by omega) (by decide)
  have k3 : a * b / c ≤ 4611686018427387904 := Int.le_trans k1 (by omega)
  have HQ := Lib.hid (quot2_pp a b c w (by omega) (by omega) (by omega) (by omega) c0 (by omega) (by rw [i1, i2]; exact k3) (lt_dec.1 a0) (lt_dec.1 b0) (by rw [i1, i2]))
  go_enter Try.func40, Try.ntmps40
  go_wp2_with fail
  refine HQ.out.mono ?_
  rintro e w' ⟨rfl, rfl⟩
  go_wp2
  go_ret2
  exact ⟨rfl, rfl⟩
set_option maxRecDepth 8000 in
set_option maxHeartbeats 16000000 in
theorem rvr_t1 (a b i l r qx qy sx sy cx cy tx ty mx my m E0 E1 E2 E3 E4 : Int) (bv : Bool) (w : World) (h : pvd a b = true) (hr : rng3 i l r = true) (hm : qnear (2 * r * 1414213562) 1000000000 = m)
    (hQ : rayv a b i l = (qx, qy, E0)) (hS : rayv qx qy (i - 16200000) (3 * r) = (sx, sy, E1)) (hC : rayv sx sy (i + 16200000) r = (cx, cy, E2)) (hT : rayv sx sy (i + 16200000) (2 * r) = (tx, ty, E3)) (hM : rayv qx qy i m = (mx, my, E4))
    (hE : (E0 != 0 || E1 != 0 || E2 != 0 || E3 != 0 || E4 != 0) = bv) :
    Calls Try.prog 21 #[ptV a b, .int .i64 i, .int .u8 1, .int .i64 l, .int .i64 r] w fun e w' => RevEnd bv (revE a b qx qy sx sy cx cy tx ty mx my r (i + 16200000) (64800000)) w e w' := by
  obtain ⟨⟨i0, i1⟩, ⟨l0, l1⟩, r0, r1⟩ := rng3_of hr
  have HV := Lib.hid h
  clear h hr
  obtain ⟨m0, m1⟩ := rm_b r0 r1
  rw [hm] at m0 m1
  have HRo := Lib.hid (fun w => rmdr_any (2 * r) 1414213562 1000000000 w (by omega) (by omega) (by omega) (by omega) (by omega) (by omega))
  rw [hm] at HRo
  have e0 : IntKind.i64.wrap (i + 16200000) = i + 16200000 := IntWalk.i64_in _ (by omega)
  have e1 : IntKind.i64.wrap (i - 16200000) = i - 16200000 := IntWalk.i64_in _ (by omega)
  have e2 : IntKind.i64.wrap (2 * r) = 2 * r := IntWalk.i64_in _ (by omega)
  have e3 : IntKind.i64.wrap (2 * r * 1414213562) = 2 * r * 1414213562 := IntWalk.i64_in _ (by omega)
  have e4 : IntKind.i64.wrap (3 * r) = 3 * r := IntWalk.i64_in _ (by omega)
  have e5 : IntKind.i64.wrap (i + 16200000 + 64800000) = i + 16200000 + 64800000 := IntWalk.i64_in _ (by omega)
  have e6 : IntKind.i64.wrap (64800000) = 64800000 := IntWalk.i64_in _ (by decide)
  have e7 : IntKind.i64.wrap (-64800000) = -64800000 := IntWalk.i64_in _ (by decide)
  have g0 : ¬ i < 0 := by omega
  have g1 : ¬ i ≥ 129600000 := by omega
  have g2 : ¬ l < 1 := by omega
  have g3 : ¬ l > 2000000 := by omega
  have g4 : ¬ r < 1 := by omega
  have g5 : ¬ r > 666666 := by omega
  clear i0 i1 l0 l1 r0 r1 m0 m1 hm
  have HR0 := Lib.hid (fun bk o w K => ray26_any a b i l bk o w K)
  rw [hQ] at HR0
  have HR1 := Lib.hid (fun bk o w K => ray26_any qx qy (i - 16200000) (3 * r) bk o w K)
  rw [hS] at HR1
  have HR2 := Lib.hid (fun bk o w K => ray26_any sx sy (i + 16200000) r bk o w K)
  rw [hC] at HR2
  have HR3 := Lib.hid (fun bk o w K => ray26_any sx sy (i + 16200000) (2 * r) bk o w K)
  rw [hT] at HR3
  have HR4 := Lib.hid (fun bk o w K => ray26_any qx qy i m bk o w K)
  rw [hM] at HR4
  have HE := Lib.hid hE
  clear hQ hS hC hT hM hE
  have HA1 := Lib.hid (fun w => rline_any a b qx qy w)
  have HA2 := Lib.hid (fun w => rline_any qx qy sx sy w)
  have HA3 := Lib.hid (fun w => rarc_any sx sy tx ty cx cy r (i + 16200000 + 64800000) (64800000) w)
  have HA4 := Lib.hid (fun w => rline_any tx ty mx my w)
  have HA5 := Lib.hid (fun w => rline_any mx my a b w)
  obtain ⟨F3, hF3⟩ : ∃ F, F = (i + 16200000 + 64800000) % 129600000 := ⟨_, rfl⟩
  obtain ⟨D1, hD1⟩ : ∃ F, F = dst2 a b qx qy := ⟨_, rfl⟩
  obtain ⟨D2, hD2⟩ : ∃ F, F = dst2 qx qy sx sy := ⟨_, rfl⟩
  obtain ⟨D3, hD3⟩ : ∃ F, F = alen cx cy r F3 (64800000) := ⟨_, rfl⟩
  obtain ⟨D4, hD4⟩ : ∃ F, F = dst2 tx ty mx my := ⟨_, rfl⟩
  obtain ⟨D5, hD5⟩ : ∃ F, F = dst2 mx my a b := ⟨_, rfl⟩
  rw [← hD1] at HA1
  rw [← hD2] at HA2
  rw [← hF3, ← hD3] at HA3
  rw [← hD4] at HA4
  rw [← hD5] at HA5
  have HF := Lib.hid (And.intro hF3 (And.intro hD1 (And.intro hD2 (And.intro hD3 (And.intro hD4 hD5)))))
  clear hF3 hD1 hD2 hD3 hD4 hD5
  go_enter Try.func21, Try.ntmps21
  go_wp2_with fail
  refine (rpvalid_any _ _ _).mono ?_
  rintro e w1 ⟨rfl, hb⟩
  rw [HV.out]
  have B := thn (below_alloc1 w _) hb
  have T := (c2_new w (.int .i64 a) (.int .i64 b) 30).next hb
  clear hb
  obtain ⟨t0, t1, t2, t3, tl⟩ := id T
  obtain ⟨t0, t1, t2, t3, tl⟩ := id (T.alc (.cells #[.bool true] 4))
  have K := c1_new w1 (.bool true) 4
  go_wp2_with fail
  clear t0 t1 t2 t3 tl
  replace B := alc B (.cells #[.bool true] 4)
  have hkf : w.heap.size ≠ w1.heap.size := by have := T.lt; omega
  have hkb : w.heap.size ≤ w1.heap.size := by have := T.lt; omega
  replace T := T.alc (.cells #[.bool true] 4)
  generalize w1.alloc (.cells #[.bool true] 4) = v0 at *
  generalize w1.heap.size = bk at *
  refine (HR0.out _ _ _ K).mono ?_
  rintro e w3 ⟨rfl, K2, bx⟩
  replace B := bx.below B hkb
  replace T := T.bex bx hkf
  clear bx K
  have BQ := c2_new w3 (.int .i64 qx) (.int .i64 qy) 30
  have hne0 : w3.heap.size ≠ bk := by have := K2.lt; omega
  replace B := alc B (.cells #[.int .i64 qx, .int .i64 qy] 30)
  have K := K2.alc (.cells #[.int .i64 qx, .int .i64 qy] 30)
  clear K2
  replace T := T.alc (.cells #[.int .i64 qx, .int .i64 qy] 30)
  obtain ⟨t0, t1, t2, t3, tl⟩ := id BQ
  go_wp2_with fail
  clear t0 t1 t2 t3 tl
  generalize w3.alloc (.cells #[.int .i64 qx, .int .i64 qy] 30) = v1 at *
  generalize w3.heap.size = bq at *
  refine (HR1.out _ _ _ K).mono ?_
  rintro e w3 ⟨rfl, K2, bx⟩
  replace B := bx.below B hkb
  replace T := T.bex bx hkf
  replace BQ := BQ.bex bx hne0
  clear bx K
  have BS := c2_new w3 (.int .i64 sx) (.int .i64 sy) 30
  have hne1 : w3.heap.size ≠ bk := by have := K2.lt; omega
  replace B := alc B (.cells #[.int .i64 sx, .int .i64 sy] 30)
  have K := K2.alc (.cells #[.int .i64 sx, .int .i64 sy] 30)
  clear K2
  replace T := T.alc (.cells #[.int .i64 sx, .int .i64 sy] 30)
  replace BQ := BQ.alc (.cells #[.int .i64 sx, .int .i64 sy] 30)
  obtain ⟨t0, t1, t2, t3, tl⟩ := id BS
  go_wp2_with fail
  clear t0 t1 t2 t3 tl
  generalize w3.alloc (.cells #[.int .i64 sx, .int .i64 sy] 30) = v2 at *
  generalize w3.heap.size = bs at *
  refine (HR2.out _ _ _ K).mono ?_
  rintro e w3 ⟨rfl, K2, bx⟩
  replace B := bx.below B hkb
  replace T := T.bex bx hkf
  replace BQ := BQ.bex bx hne0
  replace BS := BS.bex bx hne1
  clear bx K
  have BC := c2_new w3 (.int .i64 cx) (.int .i64 cy) 30
  have hne2 : w3.heap.size ≠ bk := by have := K2.lt; omega
  replace B := alc B (.cells #[.int .i64 cx, .int .i64 cy] 30)
  have K := K2.alc (.cells #[.int .i64 cx, .int .i64 cy] 30)
  clear K2
  replace T := T.alc (.cells #[.int .i64 cx, .int .i64 cy] 30)
  replace BQ := BQ.alc (.cells #[.int .i64 cx, .int .i64 cy] 30)
  replace BS := BS.alc (.cells #[.int .i64 cx, .int .i64 cy] 30)
  obtain ⟨t0, t1, t2, t3, tl⟩ := id BS
  go_wp2_with fail
  clear t0 t1 t2 t3 tl
  generalize w3.alloc (.cells #[.int .i64 cx, .int .i64 cy] 30) = v3 at *
  generalize w3.heap.size = bc at *
  refine (HR3.out _ _ _ K).mono ?_
  rintro e w3 ⟨rfl, K2, bx⟩
  replace B := bx.below B hkb
  replace T := T.bex bx hkf
  replace BQ := BQ.bex bx hne0
  replace BS := BS.bex bx hne1
  replace BC := BC.bex bx hne2
  clear bx K
  have BT := c2_new w3 (.int .i64 tx) (.int .i64 ty) 30
  have hne3 : w3.heap.size ≠ bk := by have := K2.lt; omega
  replace B := alc B (.cells #[.int .i64 tx, .int .i64 ty] 30)
  have K := K2.alc (.cells #[.int .i64 tx, .int .i64 ty] 30)
  clear K2
  replace T := T.alc (.cells #[.int .i64 tx, .int .i64 ty] 30)
  replace BQ := BQ.alc (.cells #[.int .i64 tx, .int .i64 ty] 30)
  replace BS := BS.alc (.cells #[.int .i64 tx, .int .i64 ty] 30)
  replace BC := BC.alc (.cells #[.int .i64 tx, .int .i64 ty] 30)
  obtain ⟨t0, t1, t2, t3, tl⟩ := id BQ
  go_wp2_with fail
  refine (HRo.out _).mono ?_
  rintro e w' ⟨rfl, rfl⟩
  go_wp2_with fail
  clear t0 t1 t2 t3 tl
  generalize w3.alloc (.cells #[.int .i64 tx, .int .i64 ty] 30) = v4 at *
  generalize w3.heap.size = bt at *
  refine (HR4.out _ _ _ K).mono ?_
  rintro e w3 ⟨rfl, K2, bx⟩
  replace B := bx.below B hkb
  replace T := T.bex bx hkf
  replace BQ := BQ.bex bx hne0
  replace BS := BS.bex bx hne1
  replace BC := BC.bex bx hne2
  replace BT := BT.bex bx hne3
  clear bx K
  have BM := c2_new w3 (.int .i64 mx) (.int .i64 my) 30
  have hne4 : w3.heap.size ≠ bk := by have := K2.lt; omega
  replace B := alc B (.cells #[.int .i64 mx, .int .i64 my] 30)
  have K := K2.alc (.cells #[.int .i64 mx, .int .i64 my] 30)
  clear K2
  replace T := T.alc (.cells #[.int .i64 mx, .int .i64 my] 30)
  replace BQ := BQ.alc (.cells #[.int .i64 mx, .int .i64 my] 30)
  replace BS := BS.alc (.cells #[.int .i64 mx, .int .i64 my] 30)
  replace BC := BC.alc (.cells #[.int .i64 mx, .int .i64 my] 30)
  replace BT := BT.alc (.cells #[.int .i64 mx, .int .i64 my] 30)
  rw [show (true && E0 == 0 && E1 == 0 && E2 == 0 && E3 == 0 && E4 == 0) = !bv by rw [← HE.out]; simp only [bne, Bool.true_and, Bool.not_or, Bool.not_not]] at K
  have k0 := K.c0
  have HB := Lib.hid B
  cases bv
  · go_wp2_with fail
    clear k0 K
    generalize w3.alloc (.cells #[.int .i64 mx, .int .i64 my] 30) = v at *
    generalize w3.heap.size = bm at *
    have L0 : ∀ w', Below v.heap.size v w' → w'.cell? ⟨w.heap.size, 0, none⟩ = some (.int .i64 a) := fun _ h => (T.next h).c0
    have L1 : ∀ w', Below v.heap.size v w' → w'.cell? ⟨w.heap.size, 1, none⟩ = some (.int .i64 b) := fun _ h => (T.next h).c1
    have L2 : ∀ w', Below v.heap.size v w' → w'.cell? ⟨bq, 0, none⟩ = some (.int .i64 qx) := fun _ h => (BQ.next h).c0
    have L3 : ∀ w', Below v.heap.size v w' → w'.cell? ⟨bq, 1, none⟩ = some (.int .i64 qy) := fun _ h => (BQ.next h).c1
    have L4 : ∀ w', Below v.heap.size v w' → w'.cell? ⟨bs, 0, none⟩ = some (.int .i64 sx) := fun _ h => (BS.next h).c0
    have L5 : ∀ w', Below v.heap.size v w' → w'.cell? ⟨bs, 1, none⟩ = some (.int .i64 sy) := fun _ h => (BS.next h).c1
    have L6 : ∀ w', Below v.heap.size v w' → w'.cell? ⟨bc, 0, none⟩ = some (.int .i64 cx) := fun _ h => (BC.next h).c0
    have L7 : ∀ w', Below v.heap.size v w' → w'.cell? ⟨bc, 1, none⟩ = some (.int .i64 cy) := fun _ h => (BC.next h).c1
    have L8 : ∀ w', Below v.heap.size v w' → w'.cell? ⟨bt, 0, none⟩ = some (.int .i64 tx) := fun _ h => (BT.next h).c0
    have L9 : ∀ w', Below v.heap.size v w' → w'.cell? ⟨bt, 1, none⟩ = some (.int .i64 ty) := fun _ h => (BT.next h).c1
    have L10 : ∀ w', Below v.heap.size v w' → w'.cell? ⟨bm, 0, none⟩ = some (.int .i64 mx) := fun _ h => (BM.next h).c0
    have L11 : ∀ w', Below v.heap.size v w' → w'.cell? ⟨bm, 1, none⟩ = some (.int .i64 my) := fun _ h => (BM.next h).c1
    clear T BQ BS BC BT BM B
    go_region_held3 (fun w' => Below v.heap.size v w') (first | with_reducible exact bdrew _ | with_reducible exact hS1 | with_reducible exact hS2 | with_reducible exact hS3 | with_reducible exact hS4 | with_reducible exact hS5 | with_reducible exact alc hS5 _)
      (first | (go_at_call 28; with_reducible refine (HA1.out _).mono ?_; rintro e x1 ⟨rfl, hb1⟩; have hS1 := thn (bdrew v) hb1) | (go_at_call 28; with_reducible refine (HA2.out _).mono ?_; rintro e x2 ⟨rfl, hb2⟩; have hS2 := thn hS1 hb2) | (go_at_call 27; with_reducible refine (HA3.out _).mono ?_; rintro e x3 ⟨rfl, hb3⟩; have hS3 := thn hS2 hb3) | (go_at_call 28; with_reducible refine (HA4.out _).mono ?_; rintro e x4 ⟨rfl, hb4⟩; have hS4 := thn hS3 hb4) | (go_at_call 28; with_reducible refine (HA5.out _).mono ?_; rintro e x5 ⟨rfl, hb5⟩; have hS5 := thn hS4 hb5))
    clear L0 L1 L2 L3 L4 L5 L6 L7 L8 L9 L10 L11
    obtain ⟨rfl, rfl, rfl, rfl, rfl, rfl⟩ := HF.out
    have B5 := thn HB.out hS5
    have g := els5_new x5 (lineE a b qx qy) (lineE qx qy sx sy) (arcE sx sy tx ty cx cy r (i + 16200000 + 64800000) (64800000)) (lineE tx ty mx my) (lineE mx my a b) 43
    go_wp2_with fail
    go_ret2
    exact ⟨⟨_, B5.size, rfl, g⟩, alc B5 _⟩
  · go_wp2_with fail
    go_ret2
    exact ⟨rfl, HB.out⟩
set_option maxRecDepth 8000 in
set_option maxHeartbeats 16000000 in
theorem rvr_t2 (a b i l r qx qy sx sy cx cy tx ty mx my m E0 E1 E2 E3 E4 : Int) (bv : Bool) (w : World) (h : pvd a b = true) (hr : rng3 i l r = true) (hm : qnear (2 * r * 1414213562) 1000000000 = m)
    (hQ : rayv a b i l = (qx, qy, E0)) (hS : rayv qx qy (i + 16200000) (3 * r) = (sx, sy, E1)) (hC : rayv sx sy (i - 16200000) r = (cx, cy, E2)) (hT : rayv sx sy (i - 16200000) (2 * r) = (tx, ty, E3)) (hM : rayv qx qy i m = (mx, my, E4))
    (hE : (E0 != 0 || E1 != 0 || E2 != 0 || E3 != 0 || E4 != 0) = bv) :
    Calls Try.prog 21 #[ptV a b, .int .i64 i, .int .u8 2, .int .i64 l, .int .i64 r] w fun e w' => RevEnd bv (revE a b qx qy sx sy cx cy tx ty mx my r (i - 16200000) (-64800000)) w e w' := by
  obtain ⟨⟨i0, i1⟩, ⟨l0, l1⟩, r0, r1⟩ := rng3_of hr
  have HV := Lib.hid h
  clear h hr
  obtain ⟨m0, m1⟩ := rm_b r0 r1
  rw [hm] at m0 m1
  have HRo := Lib.hid (fun w => rmdr_any (2 * r) 1414213562 1000000000 w (by omega) (by omega) (by omega) (by omega) (by omega) (by omega))
  rw [hm] at HRo
  have e0 : IntKind.i64.wrap (i + 16200000) = i + 16200000 := IntWalk.i64_in _ (by omega)
  have e1 : IntKind.i64.wrap (i - 16200000) = i - 16200000 := IntWalk.i64_in _ (by omega)
  have e2 : IntKind.i64.wrap (2 * r) = 2 * r := IntWalk.i64_in _ (by omega)
  have e3 : IntKind.i64.wrap (2 * r * 1414213562) = 2 * r * 1414213562 := IntWalk.i64_in _ (by omega)
  have e4 : IntKind.i64.wrap (3 * r) = 3 * r := IntWalk.i64_in _ (by omega)
  have e5 : IntKind.i64.wrap (i - 16200000 + 64800000) = i - 16200000 + 64800000 := IntWalk.i64_in _ (by omega)
  have e6 : IntKind.i64.wrap (64800000) = 64800000 := IntWalk.i64_in _ (by decide)
  have e7 : IntKind.i64.wrap (-64800000) = -64800000 := IntWalk.i64_in _ (by decide)
  have g0 : ¬ i < 0 := by omega
  have g1 : ¬ i ≥ 129600000 := by omega
  have g2 : ¬ l < 1 := by omega
  have g3 : ¬ l > 2000000 := by omega
  have g4 : ¬ r < 1 := by omega
  have g5 : ¬ r > 666666 := by omega
  clear i0 i1 l0 l1 r0 r1 m0 m1 hm
  have HR0 := Lib.hid (fun bk o w K => ray26_any a b i l bk o w K)
  rw [hQ] at HR0
  have HR1 := Lib.hid (fun bk o w K => ray26_any qx qy (i + 16200000) (3 * r) bk o w K)
  rw [hS] at HR1
  have HR2 := Lib.hid (fun bk o w K => ray26_any sx sy (i - 16200000) r bk o w K)
  rw [hC] at HR2
  have HR3 := Lib.hid (fun bk o w K => ray26_any sx sy (i - 16200000) (2 * r) bk o w K)
  rw [hT] at HR3
  have HR4 := Lib.hid (fun bk o w K => ray26_any qx qy i m bk o w K)
  rw [hM] at HR4
  have HE := Lib.hid hE
  clear hQ hS hC hT hM hE
  have HA1 := Lib.hid (fun w => rline_any a b qx qy w)
  have HA2 := Lib.hid (fun w => rline_any qx qy sx sy w)
  have HA3 := Lib.hid (fun w => rarc_any sx sy tx ty cx cy r (i - 16200000 + 64800000) (-64800000) w)
  have HA4 := Lib.hid (fun w => rline_any tx ty mx my w)
  have HA5 := Lib.hid (fun w => rline_any mx my a b w)
  obtain ⟨F3, hF3⟩ : ∃ F, F = (i - 16200000 + 64800000) % 129600000 := ⟨_, rfl⟩
  obtain ⟨D1, hD1⟩ : ∃ F, F = dst2 a b qx qy := ⟨_, rfl⟩
  obtain ⟨D2, hD2⟩ : ∃ F, F = dst2 qx qy sx sy := ⟨_, rfl⟩
  obtain ⟨D3, hD3⟩ : ∃ F, F = alen cx cy r F3 (-64800000) := ⟨_, rfl⟩
  obtain ⟨D4, hD4⟩ : ∃ F, F = dst2 tx ty mx my := ⟨_, rfl⟩
  obtain ⟨D5, hD5⟩ : ∃ F, F = dst2 mx my a b := ⟨_, rfl⟩
  rw [← hD1] at HA1
  rw [← hD2] at HA2
  rw [← hF3, ← hD3] at HA3
  rw [← hD4] at HA4
  rw [← hD5] at HA5
  have HF := Lib.hid (And.intro hF3 (And.intro hD1 (And.intro hD2 (And.intro hD3 (And.intro hD4 hD5)))))
  clear hF3 hD1 hD2 hD3 hD4 hD5
  go_enter Try.func21, Try.ntmps21
  go_wp2_with fail
  refine (rpvalid_any _ _ _).mono ?_
  rintro e w1 ⟨rfl, hb⟩
  rw [HV.out]
  have B := thn (below_alloc1 w _) hb
  have T := (c2_new w (.int .i64 a) (.int .i64 b) 30).next hb
  clear hb
  obtain ⟨t0, t1, t2, t3, tl⟩ := id T
  obtain ⟨t0, t1, t2, t3, tl⟩ := id (T.alc (.cells #[.bool true] 4))
  have K := c1_new w1 (.bool true) 4
  go_wp2_with fail
  clear t0 t1 t2 t3 tl
  replace B := alc B (.cells #[.bool true] 4)
  have hkf : w.heap.size ≠ w1.heap.size := by have := T.lt; omega
  have hkb : w.heap.size ≤ w1.heap.size := by have := T.lt; omega
  replace T := T.alc (.cells #[.bool true] 4)
  generalize w1.alloc (.cells #[.bool true] 4) = v0 at *
  generalize w1.heap.size = bk at *
  refine (HR0.out _ _ _ K).mono ?_
  rintro e w3 ⟨rfl, K2, bx⟩
  replace B := bx.below B hkb
  replace T := T.bex bx hkf
  clear bx K
  have BQ := c2_new w3 (.int .i64 qx) (.int .i64 qy) 30
  have hne0 : w3.heap.size ≠ bk := by have := K2.lt; omega
  replace B := alc B (.cells #[.int .i64 qx, .int .i64 qy] 30)
  have K := K2.alc (.cells #[.int .i64 qx, .int .i64 qy] 30)
  clear K2
  replace T := T.alc (.cells #[.int .i64 qx, .int .i64 qy] 30)
  obtain ⟨t0, t1, t2, t3, tl⟩ := id BQ
  go_wp2_with fail
  clear t0 t1 t2 t3 tl
  generalize w3.alloc (.cells #[.int .i64 qx, .int .i64 qy] 30) = v1 at *
  generalize w3.heap.size = bq at *
  refine (HR1.out _ _ _ K).mono ?_
  rintro e w3 ⟨rfl, K2, bx⟩
  replace B := bx.below B hkb
  replace T := T.bex bx hkf
  replace BQ := BQ.bex bx hne0
  clear bx K
  have BS := c2_new w3 (.int .i64 sx) (.int .i64 sy) 30
  have hne1 : w3.heap.size ≠ bk := by have := K2.lt; omega
  replace B := alc B (.cells #[.int .i64 sx, .int .i64 sy] 30)
  have K := K2.alc (.cells #[.int .i64 sx, .int .i64 sy] 30)
  clear K2
  replace T := T.alc (.cells #[.int .i64 sx, .int .i64 sy] 30)
  replace BQ := BQ.alc (.cells #[.int .i64 sx, .int .i64 sy] 30)
  obtain ⟨t0, t1, t2, t3, tl⟩ := id BS
  go_wp2_with fail
  clear t0 t1 t2 t3 tl
  generalize w3.alloc (.cells #[.int .i64 sx, .int .i64 sy] 30) = v2 at *
  generalize w3.heap.size = bs at *
  refine (HR2.out _ _ _ K).mono ?_
  rintro e w3 ⟨rfl, K2, bx⟩
  replace B := bx.below B hkb
  replace T := T.bex bx hkf
  replace BQ := BQ.bex bx hne0
  replace BS := BS.bex bx hne1
  clear bx K
  have BC := c2_new w3 (.int .i64 cx) (.int .i64 cy) 30
  have hne2 : w3.heap.size ≠ bk := by have := K2.lt; omega
  replace B := alc B (.cells #[.int .i64 cx, .int .i64 cy] 30)
  have K := K2.alc (.cells #[.int .i64 cx, .int .i64 cy] 30)
  clear K2
  replace T := T.alc (.cells #[.int .i64 cx, .int .i64 cy] 30)
  replace BQ := BQ.alc (.cells #[.int .i64 cx, .int .i64 cy] 30)
  replace BS := BS.alc (.cells #[.int .i64 cx, .int .i64 cy] 30)
  obtain ⟨t0, t1, t2, t3, tl⟩ := id BS
  go_wp2_with fail
  clear t0 t1 t2 t3 tl
  generalize w3.alloc (.cells #[.int .i64 cx, .int .i64 cy] 30) = v3 at *
  generalize w3.heap.size = bc at *
  refine (HR3.out _ _ _ K).mono ?_
  rintro e w3 ⟨rfl, K2, bx⟩
  replace B := bx.below B hkb
  replace T := T.bex bx hkf
  replace BQ := BQ.bex bx hne0
  replace BS := BS.bex bx hne1
  replace BC := BC.bex bx hne2
  clear bx K
  have BT := c2_new w3 (.int .i64 tx) (.int .i64 ty) 30
  have hne3 : w3.heap.size ≠ bk := by have := K2.lt; omega
  replace B := alc B (.cells #[.int .i64 tx, .int .i64 ty] 30)
  have K := K2.alc (.cells #[.int .i64 tx, .int .i64 ty] 30)
  clear K2
  replace T := T.alc (.cells #[.int .i64 tx, .int .i64 ty] 30)
  replace BQ := BQ.alc (.cells #[.int .i64 tx, .int .i64 ty] 30)
  replace BS := BS.alc (.cells #[.int .i64 tx, .int .i64 ty] 30)
  replace BC := BC.alc (.cells #[.int .i64 tx, .int .i64 ty] 30)
  obtain ⟨t0, t1, t2, t3, tl⟩ := id BQ
  go_wp2_with fail
  refine (HRo.out _).mono ?_
  rintro e w' ⟨rfl, rfl⟩
  go_wp2_with fail
  clear t0 t1 t2 t3 tl
  generalize w3.alloc (.cells #[.int .i64 tx, .int .i64 ty] 30) = v4 at *
  generalize w3.heap.size = bt at *
  refine (HR4.out _ _ _ K).mono ?_
  rintro e w3 ⟨rfl, K2, bx⟩
  replace B := bx.below B hkb
  replace T := T.bex bx hkf
  replace BQ := BQ.bex bx hne0
  replace BS := BS.bex bx hne1
  replace BC := BC.bex bx hne2
  replace BT := BT.bex bx hne3
  clear bx K
  have BM := c2_new w3 (.int .i64 mx) (.int .i64 my) 30
  have hne4 : w3.heap.size ≠ bk := by have := K2.lt; omega
  replace B := alc B (.cells #[.int .i64 mx, .int .i64 my] 30)
  have K := K2.alc (.cells #[.int .i64 mx, .int .i64 my] 30)
  clear K2
  replace T := T.alc (.cells #[.int .i64 mx, .int .i64 my] 30)
  replace BQ := BQ.alc (.cells #[.int .i64 mx, .int .i64 my] 30)
  replace BS := BS.alc (.cells #[.int .i64 mx, .int .i64 my] 30)
  replace BC := BC.alc (.cells #[.int .i64 mx, .int .i64 my] 30)
  replace BT := BT.alc (.cells #[.int .i64 mx, .int .i64 my] 30)
  rw [show (true && E0 == 0 && E1 == 0 && E2 == 0 && E3 == 0 && E4 == 0) = !bv by rw [← HE.out]; simp only [bne, Bool.true_and, Bool.not_or, Bool.not_not]] at K
  have k0 := K.c0
  have HB := Lib.hid B
  cases bv
  · go_wp2_with fail
    clear k0 K
    generalize w3.alloc (.cells #[.int .i64 mx, .int .i64 my] 30) = v at *
    generalize w3.heap.size = bm at *
    have L0 : ∀ w', Below v.heap.size v w' → w'.cell? ⟨w.heap.size, 0, none⟩ = some (.int .i64 a) := fun _ h => (T.next h).c0
    have L1 : ∀ w', Below v.heap.size v w' → w'.cell? ⟨w.heap.size, 1, none⟩ = some (.int .i64 b) := fun _ h => (T.next h).c1
    have L2 : ∀ w', Below v.heap.size v w' → w'.cell? ⟨bq, 0, none⟩ = some (.int .i64 qx) := fun _ h => (BQ.next h).c0
    have L3 : ∀ w', Below v.heap.size v w' → w'.cell? ⟨bq, 1, none⟩ = some (.int .i64 qy) := fun _ h => (BQ.next h).c1
    have L4 : ∀ w', Below v.heap.size v w' → w'.cell? ⟨bs, 0, none⟩ = some (.int .i64 sx) := fun _ h => (BS.next h).c0
    have L5 : ∀ w', Below v.heap.size v w' → w'.cell? ⟨bs, 1, none⟩ = some (.int .i64 sy) := fun _ h => (BS.next h).c1
    have L6 : ∀ w', Below v.heap.size v w' → w'.cell? ⟨bc, 0, none⟩ = some (.int .i64 cx) := fun _ h => (BC.next h).c0
    have L7 : ∀ w', Below v.heap.size v w' → w'.cell? ⟨bc, 1, none⟩ = some (.int .i64 cy) := fun _ h => (BC.next h).c1
    have L8 : ∀ w', Below v.heap.size v w' → w'.cell? ⟨bt, 0, none⟩ = some (.int .i64 tx) := fun _ h => (BT.next h).c0
    have L9 : ∀ w', Below v.heap.size v w' → w'.cell? ⟨bt, 1, none⟩ = some (.int .i64 ty) := fun _ h => (BT.next h).c1
    have L10 : ∀ w', Below v.heap.size v w' → w'.cell? ⟨bm, 0, none⟩ = some (.int .i64 mx) := fun _ h => (BM.next h).c0
    have L11 : ∀ w', Below v.heap.size v w' → w'.cell? ⟨bm, 1, none⟩ = some (.int .i64 my) := fun _ h => (BM.next h).c1
    clear T BQ BS BC BT BM B
    go_region_held3 (fun w' => Below v.heap.size v w') (first | with_reducible exact bdrew _ | with_reducible exact hS1 | with_reducible exact hS2 | with_reducible exact hS3 | with_reducible exact hS4 | with_reducible exact hS5 | with_reducible exact alc hS5 _)
      (first | (go_at_call 28; with_reducible refine (HA1.out _).mono ?_; rintro e x1 ⟨rfl, hb1⟩; have hS1 := thn (bdrew v) hb1) | (go_at_call 28; with_reducible refine (HA2.out _).mono ?_; rintro e x2 ⟨rfl, hb2⟩; have hS2 := thn hS1 hb2) | (go_at_call 27; with_reducible refine (HA3.out _).mono ?_; rintro e x3 ⟨rfl, hb3⟩; have hS3 := thn hS2 hb3) | (go_at_call 28; with_reducible refine (HA4.out _).mono ?_; rintro e x4 ⟨rfl, hb4⟩; have hS4 := thn hS3 hb4) | (go_at_call 28; with_reducible refine (HA5.out _).mono ?_; rintro e x5 ⟨rfl, hb5⟩; have hS5 := thn hS4 hb5))
    clear L0 L1 L2 L3 L4 L5 L6 L7 L8 L9 L10 L11
    obtain ⟨rfl, rfl, rfl, rfl, rfl, rfl⟩ := HF.out
    have B5 := thn HB.out hS5
    have g := els5_new x5 (lineE a b qx qy) (lineE qx qy sx sy) (arcE sx sy tx ty cx cy r (i - 16200000 + 64800000) (-64800000)) (lineE tx ty mx my) (lineE mx my a b) 43
    go_wp2_with fail
    go_ret2
    exact ⟨⟨_, B5.size, rfl, g⟩, alc B5 _⟩
  · go_wp2_with fail
    go_ret2
    exact ⟨rfl, HB.out⟩
open Go.RowKit Go.Joins Fdk
set_option linter.unusedVariables false
/-- a procedure turn is closed. -/
theorem clo_rev {a b i l r qx qy sx sy cx cy tx ty mx my m v n E0 E1 E2 E3 E4 s : Int} (h1 : pvd a b = true) (h3 : rng3 i l r = true)
    (hQ : rayv a b i l = (qx, qy, E0)) (hS : rayv qx qy v (3 * r) = (sx, sy, E1)) (hC : rayv sx sy n r = (cx, cy, E2)) (hT : rayv sx sy n (2 * r) = (tx, ty, E3)) (hM : rayv qx qy i m = (mx, my, E4))
    (hE : (E0 != 0 || E1 != 0 || E2 != 0 || E3 != 0 || E4 != 0) = false) (hs : s = 64800000 ∨ s = -64800000) :
    Clo 5 (revE a b qx qy sx sy cx cy tx ty mx my r n s) a b := by
  obtain ⟨_, _, r0, r1⟩ := rng3_of h3
  simp only [Bool.or_eq_false_iff, bne_eq_false_iff_eq] at hE
  obtain ⟨⟨⟨⟨rfl, rfl⟩, rfl⟩, rfl⟩, rfl⟩ := hE
  obtain ⟨_, _, vQ⟩ := rayv_ok hQ
  obtain ⟨_, _, vS⟩ := rayv_ok hS
  obtain ⟨c1, c2, vC⟩ := rayv_ok hC
  obtain ⟨t1, t2, vT⟩ := rayv_ok hT
  obtain ⟨_, _, vM⟩ := rayv_ok hM
  refine ⟨by omega, by omega, rfl, rfl, rfl, rfl, fun i hi => ?_, fun i hi => ?_, fun i hi => ?_, fun i hi hc => ?_⟩
  · match i, hi with | 0, _ => rfl | 1, _ => rfl | 2, _ => rfl | 3, _ => rfl | 4, _ => rfl
  · match i, hi with | 0, _ => exact ⟨rfl, rfl⟩ | 1, _ => exact ⟨rfl, rfl⟩ | 2, _ => exact ⟨rfl, rfl⟩ | 3, _ => exact ⟨rfl, rfl⟩
  · match i, hi with | 0, _ => exact ⟨h1, vQ⟩ | 1, _ => exact ⟨vQ, vS⟩ | 2, _ => exact ⟨vS, vT⟩ | 3, _ => exact ⟨vT, vM⟩ | 4, _ => exact ⟨vM, h1⟩
  · match i, hi with
    | 0, _ => exact Bool.noConfusion (hc : false = true)
    | 1, _ => exact Bool.noConfusion (hc : false = true)
    | 2, _ => exact arc_ok (avd_mk vC r0 (by omega) hs) (by show r ≤ 2000000; omega) hs c1 c2 t1 t2
    | 3, _ => exact Bool.noConfusion (hc : false = true)
    | 4, _ => exact Bool.noConfusion (hc : false = true)
theorem rev_t1 (a b i l r : Int) (h1 : pvd a b = true) (h3 : rng3 i l r = true) (w : World) :
    Calls Try.prog 9 #[.agg #[.int .i64 a, .int .i64 b, .int .i64 i, .int .u8 1, .int .i64 l, .int .i64 r]] w fun e w' => e = .returned (.bool true) ∧ Below w.heap.size w w' := by
  rcases hQ : rayv a b i l with ⟨qx, qy, E0⟩
  rcases hS : rayv qx qy (i - 16200000) (3 * r) with ⟨sx, sy, E1⟩
  rcases hC : rayv sx sy (i + 16200000) r with ⟨cx, cy, E2⟩
  rcases hT : rayv sx sy (i + 16200000) (2 * r) with ⟨tx, ty, E3⟩
  rcases hM : rayv qx qy i (qnear (2 * r * 1414213562) 1000000000) with ⟨mx, my, E4⟩
  obtain ⟨bv, hE⟩ : ∃ bv, (E0 != 0 || E1 != 0 || E2 != 0 || E3 != 0 || E4 != 0) = bv := ⟨_, rfl⟩
  have A := fun w => rvh_t1 a b i l r qx qy sx sy cx cy tx ty mx my _ E0 E1 E2 E3 E4 bv w h1 h3 rfl hQ hS hC hT hM hE
  have B := fun w => rvr_t1 a b i l r qx qy sx sy cx cy tx ty mx my _ E0 E1 E2 E3 E4 bv w h1 h3 rfl hQ hS hC hT hM hE
  cases bv with
  | true => exact reverses_no a b i 1 l r 2 (Lib.hid awake_any) (by decide) (Lib.hid fun w => A w) (Lib.hid fun w => B w) w
  | false =>
    have C := clo_rev h1 h3 hQ hS hC hT hM hE (.inl rfl : (64800000 : Int) = 64800000 ∨ (64800000 : Int) = -64800000)
    exact reverses_ok a b i 1 l r _ (Lib.hid awake_any) (Lib.hid fun w => A w) (Lib.hid fun w => B w) (Lib.hid fun bb ca w A => closed_5 bb ca a b _ w A C) w
theorem rev_t2 (a b i l r : Int) (h1 : pvd a b = true) (h3 : rng3 i l r = true) (w : World) :
    Calls Try.prog 9 #[.agg #[.int .i64 a, .int .i64 b, .int .i64 i, .int .u8 2, .int .i64 l, .int .i64 r]] w fun e w' => e = .returned (.bool true) ∧ Below w.heap.size w w' := by
  rcases hQ : rayv a b i l with ⟨qx, qy, E0⟩
  rcases hS : rayv qx qy (i + 16200000) (3 * r) with ⟨sx, sy, E1⟩
  rcases hC : rayv sx sy (i - 16200000) r with ⟨cx, cy, E2⟩
  rcases hT : rayv sx sy (i - 16200000) (2 * r) with ⟨tx, ty, E3⟩
  rcases hM : rayv qx qy i (qnear (2 * r * 1414213562) 1000000000) with ⟨mx, my, E4⟩
  obtain ⟨bv, hE⟩ : ∃ bv, (E0 != 0 || E1 != 0 || E2 != 0 || E3 != 0 || E4 != 0) = bv := ⟨_, rfl⟩
  have A := fun w => rvh_t2 a b i l r qx qy sx sy cx cy tx ty mx my _ E0 E1 E2 E3 E4 bv w h1 h3 rfl hQ hS hC hT hM hE
  have B := fun w => rvr_t2 a b i l r qx qy sx sy cx cy tx ty mx my _ E0 E1 E2 E3 E4 bv w h1 h3 rfl hQ hS hC hT hM hE
  cases bv with
  | true => exact reverses_no a b i 2 l r 2 (Lib.hid awake_any) (by decide) (Lib.hid fun w => A w) (Lib.hid fun w => B w) w
  | false =>
    have C := clo_rev h1 h3 hQ hS hC hT hM hE (.inr rfl : (-64800000 : Int) = 64800000 ∨ (-64800000 : Int) = -64800000)
    exact reverses_ok a b i 2 l r _ (Lib.hid awake_any) (Lib.hid fun w => A w) (Lib.hid fun w => B w) (Lib.hid fun bb ca w A => closed_5 bb ca a b _ w A C) w
theorem holdReverses_walk (a b i k l r : Int) (w : World) :
    Calls Try.prog 9 #[.agg #[.int .i64 a, .int .i64 b, .int .i64 i, .int .u8 k, .int .i64 l, .int .i64 r]] w fun e w' => e = .returned (.bool true) ∧ Below w.heap.size w w' := by
  cases h1 : pvd a b with
  | false => exact reverses_no a b i k l r 1 (Lib.hid awake_any) (by decide) (Lib.hid fun w => rvh_a a b i k l r w h1) (Lib.hid fun w => rvr_a a b i k l r w h1) w
  | true =>
    by_cases k1 : k = 1
    · subst k1
      cases h3 : rng3 i l r with
      | false => exact reverses_no a b i 1 l r 2 (Lib.hid awake_any) (by decide) (Lib.hid fun w => rvh_r1 a b i l r w h1 h3) (Lib.hid fun w => rvr_r1 a b i l r w h1 h3) w
      | true => exact rev_t1 a b i l r h1 h3 w
    · by_cases k2 : k = 2
      · subst k2
        cases h3 : rng3 i l r with
        | false => exact reverses_no a b i 2 l r 2 (Lib.hid awake_any) (by decide) (Lib.hid fun w => rvh_r2 a b i l r w h1 h3) (Lib.hid fun w => rvr_r2 a b i l r w h1 h3) w
        | true => exact rev_t2 a b i l r h1 h3 w
      · exact reverses_no a b i k l r 1 (Lib.hid awake_any) (by decide) (Lib.hid fun w => rvh_b a b i k l r w h1 k1 k2) (Lib.hid fun w => rvr_b a b i k l r w h1 k1 k2) w
end Go.Proofs.Ytgabdnabcpdinaa
