/- The reference of package sphere: Course. -/
import Derived.Test.YtgcmmfclnialfaaSphM
import Derived.Test.YtgcmmfclnialfaaSphR
namespace Go.Proofs.Ytgcmmfclnialfaa
open Go.RowKit Go.Joins Fdk
set_option linter.unusedVariables false
theorem unit_q (c d : Int) : Unit3 (rd (cn c * cn d)) (rd (cn c * sn d)) (sn c) := norm_b c d
theorem unit_n (a b : Int) : Unit3 (-rd (sn a * cn b)) (-rd (sn a * sn b)) (cn a) := by
  have h := norm_b (32400000 - a) b
  have e1 : cn (32400000 - a) = sn a := by rw [← sn_q (32400000 - a)]; congr 1; omega
  have e2 : sn (32400000 - a) = cn a := sn_q a
  rw [e1, e2] at h
  unfold Unit3
  rw [Int.neg_mul_neg, Int.neg_mul_neg]
  exact h
theorem unit_e (b : Int) : Unit3 (-sn b) (cn b) 0 := by
  have h := sq_all b
  unfold SqOk at h
  unfold Unit3
  rw [Int.neg_mul_neg]
  omega
theorem lxy_b (a b c d : Int) : (-1073741836 ≤ lx b c d ∧ lx b c d ≤ 1073741836) ∧ (-1073741836 ≤ ly a b c d ∧ ly a b c d ≤ 1073741836) ∧ (-1073741836 ≤ lz a b c d ∧ lz a b c d ≤ 1073741836) := by
  obtain ⟨_, _, _, k, _⟩ := dist_b (unit_e b) (unit_q c d)
  obtain ⟨_, _, _, l, _⟩ := dist_b (unit_n a b) (unit_q c d)
  obtain ⟨_, _, _, m, _⟩ := dist_b (unit_q a b) (unit_q c d)
  rw [Int.zero_mul, Int.add_zero] at k
  unfold lx ly lz
  generalize -sn b * rd (cn c * cn d) + cn b * rd (cn c * sn d) = A at *
  generalize -rd (sn a * cn b) * rd (cn c * cn d) + -rd (sn a * sn b) * rd (cn c * sn d) + cn a * sn c = B at *
  generalize rd (cn a * cn b) * rd (cn c * cn d) + rd (cn a * sn b) * rd (cn c * sn d) + sn a * sn c = C at *
  unfold rd
  omega
/-- where the positions are neither near nor opposite, the course is of a direction. -/
theorem crs_err (a b c d : Int) (h1 : ¬ dv a b c d < 600) (h2 : ¬ dv a b c d > 64799400) : (a2 (lx b c d) (ly a b c d)).2 = 0 := by
  obtain ⟨k, l, _⟩ := lxy_b a b c d
  unfold a2
  rw [if_pos (show fits (lx b c d) (ly a b c d) = true from decide_eq_true ⟨by omega, by omega⟩), if_neg]
  rintro ⟨hx, hy⟩
  have := crs_zero a b _ _ _ (unit_q c d) (one_rd (cc_b c d)) (one_rd (cs_b c d)) (sn_b c) hx hy
  exact absurd this (by unfold dv at h1 h2; exact fun k => k.elim h1 h2)
set_option maxHeartbeats 1600000 in
theorem rcourse_any (a b c d : Int) (w : World) :
    Calls Try.prog 25 #[posV a b, posV c d] w fun e w' => e = TwoInts (crs a b c d).1 (crs a b c d).2 ∧ Below w.heap.size w w' := by
  have hcases := crs_cases a b c d
  have hdv : ∀ v, dstv a b c d = (v, 0) → v = dv a b c d ∧ (vd a b && vd c d) = true := fun v h => by
    unfold dstv at h
    split at h
    · next hv => exact ⟨(Prod.mk.inj h).1.symm, hv⟩
    · exact absurd (Prod.mk.inj h).2 (by omega)
  rcases hcases with ⟨hd, hh⟩ | ⟨v, hd, ⟨h1, hh⟩ | ⟨h1, h2, hh⟩ | ⟨h1, h2, hh⟩⟩
  · have HD := Lib.hid hd
    clear hd hdv
    go_enter Try.func25, Try.ntmps25
    go_wp2_with fail
    refine (rdist_any _ _ _ _ _).mono ?_
    rintro e w1 ⟨rfl, hb⟩
    have B := thn (below_alloc2 w _ _) hb
    rw [HD.out]
    go_wp2
    go_ret2
    exact ⟨by rw [hh.out]; rfl, B⟩
  · have HD := Lib.hid hd
    clear hd hdv
    go_enter Try.func25, Try.ntmps25
    go_wp2_with fail
    refine (rdist_any _ _ _ _ _).mono ?_
    rintro e w1 ⟨rfl, hb⟩
    have B := thn (below_alloc2 w _ _) hb
    rw [HD.out]
    go_wp2
    go_ret2
    exact ⟨by rw [hh.out]; rfl, B⟩
  · have HD := Lib.hid hd
    clear hd hdv
    go_enter Try.func25, Try.ntmps25
    go_wp2_with fail
    refine (rdist_any _ _ _ _ _).mono ?_
    rintro e w1 ⟨rfl, hb⟩
    have B := thn (below_alloc2 w _ _) hb
    rw [HD.out]
    go_wp2
    go_ret2
    exact ⟨by rw [hh.out]; rfl, B⟩
  · obtain ⟨hv, hvd⟩ := hdv v hd
    have HE := Lib.hid (crs_err a b c d (by omega) (by omega))
    have HL := Lib.hid (show lclv a b c d = (lx b c d, ly a b c d, lz a b c d, 0) by unfold lclv; rw [if_pos hvd])
    have HD := Lib.hid hd
    clear hd hdv hv hvd
    go_enter Try.func25, Try.ntmps25
    go_wp2_with fail
    refine (rdist_any _ _ _ _ _).mono ?_
    rintro e w1 ⟨rfl, hb⟩
    have B := thn (below_alloc2 w _ _) hb
    have T := ((c2_new w (.int .i64 a) (.int .i64 b) 23).alc _).next hb
    have U := (c2_new _ (.int .i64 c) (.int .i64 d) 23).next hb
    simp only [World.alloc, Array.size_push] at U
    obtain ⟨d0, d1, j0, j1, l1⟩ := id U
    obtain ⟨t0, t1, t2, t3, tl⟩ := id T
    rw [HD.out]
    go_wp2_with fail
    refine (rLocal_any _ _ _ _ _).mono ?_
    rintro e w2 ⟨rfl, hb2⟩
    rw [HL.out]
    replace B := thn B hb2
    clear d0 d1 j0 j1 l1 t0 t1 t2 t3 tl T U
    have V := c3_new w2 (.int .i64 (lx b c d)) (.int .i64 (ly a b c d)) (.int .i64 (lz a b c d)) 26
    go_wp2_with fail
    refine (ra2_any _ _ _).mono ?_
    rintro e w3 ⟨rfl, rfl⟩
    go_wp2
    go_ret2
    exact ⟨by rw [hh.out, HE.out]; rfl, alc B _⟩
end Go.Proofs.Ytgcmmfclnialfaa
