/- The reference of package sphere: Along. -/
import Derived.Test.YtgcmmfclnialfaaSphL
import Derived.Test.YtgcmmfclnialfaaSphK
import Derived.Test.YtgcmmfclnialfaaSphC
namespace Go.Proofs.Ytgcmmfclnialfaa
open Go.RowKit Go.Joins Fdk
set_option linter.unusedVariables false
set_option maxHeartbeats 4000000 in
theorem ralong_a (a b t s : Int) (w : World) (h1 : vd a b = false) :
    Calls Try.prog 27 #[posV a b, .int .i64 t, .int .i64 s] w fun e w' => e = Ps3 (alv a b t s) ∧ Below w.heap.size w w' := by
  have hh := Lib.hid (show alv a b t s = (0, 0, 1) by unfold alv; rw [if_neg (by rw [h1]; decide)])
  have HO := Lib.hid (show ofv a b = (0, 0, 0, 1) by simp [ofv, h1])
  clear h1
  go_enter Try.func27, Try.ntmps27
  go_wp2_with fail
  refine (rOf_any _ _ _).mono ?_
  rintro e w1 ⟨rfl, hb⟩
  have B := thn (below_alloc2 w _ _) hb
  have Z := (c2_new _ (.int .i64 0) (.int .i64 0) 23).next hb
  simp only [World.alloc, Array.size_push] at Z
  replace B := alc B (.cells #[.int .i64 (0), .int .i64 (0), .int .i64 (0)] 26)
  replace Z := Z.alc (.cells #[.int .i64 (0), .int .i64 (0), .int .i64 (0)] 26)
  obtain ⟨z0, z1, z2, z3, zl⟩ := id Z
  rw [HO.out]
  go_wp2
  exact bodyPost_ret (v := .tuple #[posV 0 0, .int .i64 1]) (by simp [results, Try.results27, go_sem, *]) rfl ⟨ps3 hh.out.symm, below_put2 B (b := w.heap.size + 1) (Nat.le_succ _) _ _⟩
set_option maxHeartbeats 4000000 in
theorem ralong_b (a b t s : Int) (w : World) (h1 : vd a b = true) (h2 : s < 0) :
    Calls Try.prog 27 #[posV a b, .int .i64 t, .int .i64 s] w fun e w' => e = Ps3 (alv a b t s) ∧ Below w.heap.size w w' := by
  have hh := Lib.hid (show alv a b t s = (0, 0, 2) by unfold alv; rw [if_pos h1, if_pos (.inl h2)])
  have HO := Lib.hid (show ofv a b = (rd (cn a * cn b), rd (cn a * sn b), sn a, 0) by simp [ofv, h1])
  clear h1
  go_enter Try.func27, Try.ntmps27
  go_wp2_with fail
  refine (rOf_any _ _ _).mono ?_
  rintro e w1 ⟨rfl, hb⟩
  have B := thn (below_alloc2 w _ _) hb
  have Z := (c2_new _ (.int .i64 0) (.int .i64 0) 23).next hb
  simp only [World.alloc, Array.size_push] at Z
  replace B := alc B (.cells #[.int .i64 (rd (cn a * cn b)), .int .i64 (rd (cn a * sn b)), .int .i64 (sn a)] 26)
  replace Z := Z.alc (.cells #[.int .i64 (rd (cn a * cn b)), .int .i64 (rd (cn a * sn b)), .int .i64 (sn a)] 26)
  obtain ⟨z0, z1, z2, z3, zl⟩ := id Z
  rw [HO.out]
  go_wp2
  exact bodyPost_ret (v := .tuple #[posV 0 0, .int .i64 2]) (by simp [results, Try.results27, go_sem, *]) rfl ⟨ps3 hh.out.symm, below_put2 B (b := w.heap.size + 1) (Nat.le_succ _) _ _⟩
set_option maxHeartbeats 4000000 in
theorem ralong_c (a b t s : Int) (w : World) (h1 : vd a b = true) (h2 : ¬ s < 0) (h3 : s > 64800000) :
    Calls Try.prog 27 #[posV a b, .int .i64 t, .int .i64 s] w fun e w' => e = Ps3 (alv a b t s) ∧ Below w.heap.size w w' := by
  have hh := Lib.hid (show alv a b t s = (0, 0, 2) by unfold alv; rw [if_pos h1, if_pos (.inr h3)])
  have HO := Lib.hid (show ofv a b = (rd (cn a * cn b), rd (cn a * sn b), sn a, 0) by simp [ofv, h1])
  clear h1
  go_enter Try.func27, Try.ntmps27
  go_wp2_with fail
  refine (rOf_any _ _ _).mono ?_
  rintro e w1 ⟨rfl, hb⟩
  have B := thn (below_alloc2 w _ _) hb
  have Z := (c2_new _ (.int .i64 0) (.int .i64 0) 23).next hb
  simp only [World.alloc, Array.size_push] at Z
  replace B := alc B (.cells #[.int .i64 (rd (cn a * cn b)), .int .i64 (rd (cn a * sn b)), .int .i64 (sn a)] 26)
  replace Z := Z.alc (.cells #[.int .i64 (rd (cn a * cn b)), .int .i64 (rd (cn a * sn b)), .int .i64 (sn a)] 26)
  obtain ⟨z0, z1, z2, z3, zl⟩ := id Z
  rw [HO.out]
  go_wp2
  exact bodyPost_ret (v := .tuple #[posV 0 0, .int .i64 2]) (by simp [results, Try.results27, go_sem, *]) rfl ⟨ps3 hh.out.symm, below_put2 B (b := w.heap.size + 1) (Nat.le_succ _) _ _⟩
theorem alv_r (a b t s : Int) (h1 : vd a b = true) (h2 : ¬ s < 0) (h3 : ¬ s > 64800000) : alv a b t s = posn (rd (rd (cn a * cn b) * cn s + rd (-sn b * sn t - rd (sn a * cn b) * cn t) * sn s)) (rd (rd (cn a * sn b) * cn s + rd (cn b * sn t - rd (sn a * sn b) * cn t) * sn s)) (rd (sn a * cn s + rd (cn a * cn t) * sn s)) := by
  have e0 : -sn b * sn t + -rd (sn a * cn b) * cn t = -sn b * sn t - rd (sn a * cn b) * cn t := by grind
  have e1 : cn b * sn t + -rd (sn a * sn b) * cn t = cn b * sn t - rd (sn a * sn b) * cn t := by grind
  have e2 : (0 : Int) * sn t + cn a * cn t = cn a * cn t := by grind
  unfold alv
  rw [if_pos h1, if_neg (by omega), e0, e1, e2]
set_option maxRecDepth 4000 in
set_option maxHeartbeats 4000000 in
theorem ralong_d (a b t s : Int) (w : World) (h1 : vd a b = true) (h2 : ¬ s < 0) (h3 : ¬ s > 64800000) :
    Calls Try.prog 27 #[posV a b, .int .i64 t, .int .i64 s] w fun e w' => e = Ps3 (alv a b t s) ∧ Below w.heap.size w w' := by
  have hh := Lib.hid (alv_r a b t s h1 h2 h3)
  have HO := Lib.hid (show ofv a b = (rd (cn a * cn b), rd (cn a * sn b), sn a, 0) by simp [ofv, h1])
  clear h1
  go_enter Try.func27, Try.ntmps27
  go_wp2_with fail
  refine (rOf_any _ _ _).mono ?_
  rintro e w1 ⟨rfl, hb⟩
  have B := thn (below_alloc2 w _ _) hb
  have T := ((c2_new w (.int .i64 a) (.int .i64 b) 23).alc _).next hb
  have Z := (c2_new _ (.int .i64 0) (.int .i64 0) 23).next hb
  simp only [World.alloc, Array.size_push] at Z
  have Zlt := Z.lt
  replace B := alc B (.cells #[.int .i64 (rd (cn a * cn b)), .int .i64 (rd (cn a * sn b)), .int .i64 (sn a)] 26)
  replace T := T.alc (.cells #[.int .i64 (rd (cn a * cn b)), .int .i64 (rd (cn a * sn b)), .int .i64 (sn a)] 26)
  replace Z := Z.alc (.cells #[.int .i64 (rd (cn a * cn b)), .int .i64 (rd (cn a * sn b)), .int .i64 (sn a)] 26)
  have Q := c3_new w1 (.int .i64 (rd (cn a * cn b))) (.int .i64 (rd (cn a * sn b))) (.int .i64 (sn a)) 26
  obtain ⟨t0, t1, t2, t3, tl⟩ := id T
  rw [HO.out]
  clear hb
  go_wp2_with fail
  clear t0 t1 t2 t3 tl
  have HNQ0 := Lib.hid (show w.heap.size + 1 ≠ w1.heap.size from Nat.ne_of_lt Zlt)
  clear Zlt
  generalize w1.alloc (.cells #[.int .i64 (rd (cn a * cn b)), .int .i64 (rd (cn a * sn b)), .int .i64 (sn a)] 26) = v1 at *
  generalize w1.heap.size = bq at *
  refine (rslo_any _ _ _).mono ?_
  rintro e w2 ⟨rfl, hb2⟩
  replace B := thn B hb2
  replace T := T.next hb2
  replace Z := Z.next hb2
  replace Q := Q.next hb2
  clear hb2
  have bE0 := one_neg (sn_b b)
  have bE1 : One1 (cn b) := cn_b b
  have bA := one_rd (sc_b a b)
  have bB := one_rd (ss_b a b)
  have bN2 : One1 (cn a) := cn_b a
  have bU0 := one_rd (cc_b a b)
  have bU1 := one_rd (cs_b a b)
  have bU2 : One1 (sn a) := sn_b a
  have bST : One1 (sn t) := sn_b t
  have bCT : One1 (cn t) := cn_b t
  have bSS : One1 (sn s) := sn_b s
  have bCS : One1 (cn s) := cn_b s
  have ⟨p0, p1⟩ := one_b bE0.1 bE0.2 bST.1 bST.2
  have ⟨p2, p3⟩ := one_b bE1.1 bE1.2 bST.1 bST.2
  have ⟨p4, p5⟩ := one_b bA.1 bA.2 bCT.1 bCT.2
  have ⟨p6, p7⟩ := one_b bB.1 bB.2 bCT.1 bCT.2
  have ⟨p8, p9⟩ := one_b bN2.1 bN2.2 bCT.1 bCT.2
  have ⟨q0, q1⟩ := one_b bU0.1 bU0.2 bCS.1 bCS.2
  have ⟨q2, q3⟩ := one_b bU1.1 bU1.2 bCS.1 bCS.2
  have ⟨q4, q5⟩ := one_b bU2.1 bU2.2 bCS.1 bCS.2
  have e0 : IntKind.i64.wrap (-sn b * sn t) = -sn b * sn t := IntWalk.i64_in _ (by omega)
  have e1 : IntKind.i64.wrap (cn b * sn t) = cn b * sn t := IntWalk.i64_in _ (by omega)
  have e2 : IntKind.i64.wrap (rd (sn a * cn b) * cn t) = rd (sn a * cn b) * cn t := IntWalk.i64_in _ (by omega)
  have e3 : IntKind.i64.wrap (rd (sn a * sn b) * cn t) = rd (sn a * sn b) * cn t := IntWalk.i64_in _ (by omega)
  have e4 : IntKind.i64.wrap (cn a * cn t) = cn a * cn t := IntWalk.i64_in _ (by omega)
  have e5 : IntKind.i64.wrap (rd (cn a * cn b) * cn s) = rd (cn a * cn b) * cn s := IntWalk.i64_in _ (by omega)
  have e6 : IntKind.i64.wrap (rd (cn a * sn b) * cn s) = rd (cn a * sn b) * cn s := IntWalk.i64_in _ (by omega)
  have e7 : IntKind.i64.wrap (sn a * cn s) = sn a * cn s := IntWalk.i64_in _ (by omega)
  have ed0 : IntKind.i64.wrap (-sn b * sn t - rd (sn a * cn b) * cn t) = -sn b * sn t - rd (sn a * cn b) * cn t := IntWalk.i64_in _ (by omega)
  have ed1 : IntKind.i64.wrap (cn b * sn t - rd (sn a * sn b) * cn t) = cn b * sn t - rd (sn a * sn b) * cn t := IntWalk.i64_in _ (by omega)
  have ⟨m0, m1⟩ := rd_b2 (x := -sn b * sn t - rd (sn a * cn b) * cn t) (by omega) (by omega)
  have ⟨m2, m3⟩ := rd_b2 (x := cn b * sn t - rd (sn a * sn b) * cn t) (by omega) (by omega)
  have ⟨m4, m5⟩ := rd_b2 (x := cn a * cn t) (by omega) (by omega)
  have en : IntKind.i64.wrap (-sn b) = -sn b := IntWalk.i64_in _ (by have := sn_b b; omega)
  obtain ⟨t0, t1, t2, t3, tl⟩ := id T
  go_wp2_with (first | (go_at_call 36; refine (rcos_any _ _).mono ?_; rintro e w' ⟨rfl, rfl⟩) | (go_at_call 38; refine (rsin_any _ _).mono ?_; rintro e w' ⟨rfl, rfl⟩))
  clear t0 t1 t2 t3 tl
  have L0 : ∀ w', Below w2.heap.size w2 w' → w'.cell? ⟨w.heap.size, 0, none⟩ = some (.int .i64 a) := fun _ h => (T.next h).c0
  have L1 : ∀ w', Below w2.heap.size w2 w' → w'.cell? ⟨w.heap.size, 1, none⟩ = some (.int .i64 b) := fun _ h => (T.next h).c1
  have HB0 := Lib.hid B
  have HZ0 := Lib.hid Z
  have HQ0 := Lib.hid Q
  clear B Z Q T
  go_cut [14] (fun s14 wx => ∃ bd : Nat, w2.heap.size ≤ bd ∧ s14 = .pointer (some ⟨bd, 0, none⟩) ∧ C3 wx bd (.int .i64 (rd (-sn b * sn t - rd (sn a * cn b) * cn t))) (.int .i64 (rd (cn b * sn t - rd (sn a * sn b) * cn t))) (.int .i64 (rd (cn a * cn t))) ∧ Below w2.heap.size w2 wx)
  case first =>
    go_region_held3 (fun w' => Below w2.heap.size w2 w') (first | with_reducible exact bdrew _ | with_reducible exact thn (below_alloc1 w2 _) (bdrew _) | with_reducible exact alc (bdrew _) _ | with_reducible exact below_put3 (thn (below_alloc1 w2 _) (bdrew _)) (b := w2.heap.size) (Nat.le_refl _) _ _ _ | with_reducible exact below_put3 (alc (bdrew _) _) (b := w2.heap.size) (Nat.le_refl _) _ _ _)
      (first | (go_at_call 36; refine (rcos_any _ _).mono ?_; rintro e w' ⟨rfl, rfl⟩) | (go_at_call 38; refine (rsin_any _ _).mono ?_; rintro e w' ⟨rfl, rfl⟩) | (go_at_call 37; refine (rround_any _ _ (by omega) (by omega)).mono ?_; rintro e w' ⟨rfl, rfl⟩))
    all_goals (go_wp2_with fail; go_meet)
    all_goals exact ⟨_, Nat.le_refl _, rfl, (c3_new w2 _ _ _ _).drew, thn (below_alloc1 w2 _) (bdrew _)⟩
  case rest =>
  obtain ⟨bd, hle, rfl, Q2, B2⟩ := hcut
  have B := thn HB0.out B2
  have Z := HZ0.out.next B2
  have Q := HQ0.out.next B2
  have HNQ := Lib.hid (show w.heap.size + 1 ≠ bq from HNQ0.out)
  have HND := Lib.hid (show w.heap.size + 1 ≠ bd from fun h => absurd hle (by have := HZ0.out.lt; omega))
  clear L0 L1 HB0 HZ0 HQ0 B2 hle p0 p1 p2 p3 p4 p5 p6 p7 p8 p9 e0 e1 e2 e3 e4 ed0 ed1 en
  generalize rd (-sn b * sn t - rd (sn a * cn b) * cn t) = D0 at *
  generalize rd (cn b * sn t - rd (sn a * sn b) * cn t) = D1 at *
  generalize rd (cn a * cn t) = D2 at *
  have ⟨r0, r1⟩ := two_b m0 m1 bSS.1 bSS.2
  have ⟨r2, r3⟩ := two_b m2 m3 bSS.1 bSS.2
  have ⟨r4, r5⟩ := two_b m4 m5 bSS.1 bSS.2
  generalize rd (cn a * cn b) = U0 at *
  generalize rd (cn a * sn b) = U1 at *
  generalize sn a = U2 at *
  have e8 : IntKind.i64.wrap (D0 * sn s) = D0 * sn s := IntWalk.i64_in _ (by omega)
  have e9 : IntKind.i64.wrap (D1 * sn s) = D1 * sn s := IntWalk.i64_in _ (by omega)
  have e10 : IntKind.i64.wrap (D2 * sn s) = D2 * sn s := IntWalk.i64_in _ (by omega)
  have e11 : IntKind.i64.wrap (U0 * cn s + D0 * sn s) = U0 * cn s + D0 * sn s := IntWalk.i64_in _ (by omega)
  have e12 : IntKind.i64.wrap (U1 * cn s + D1 * sn s) = U1 * cn s + D1 * sn s := IntWalk.i64_in _ (by omega)
  have e13 : IntKind.i64.wrap (U2 * cn s + D2 * sn s) = U2 * cn s + D2 * sn s := IntWalk.i64_in _ (by omega)
  obtain ⟨i0, i1, i2, i3, i4, i5, il⟩ := id Q2
  obtain ⟨k0, k1, k2, k3, k4, k5, kl⟩ := id Q
  clear m0 m1 m2 m3 m4 m5 bE0 bE1 bA bB bN2 bU0 bU1 bU2 bST bCT bSS bCS
  go_wp2_with (first | (go_at_call 36; refine (rcos_any _ _).mono ?_; rintro e w' ⟨rfl, rfl⟩) | (go_at_call 38; refine (rsin_any _ _).mono ?_; rintro e w' ⟨rfl, rfl⟩))
  clear i0 i1 i2 i3 i4 i5 il k0 k1 k2 k3 k4 k5 kl
  have F0 : ∀ w', C3 w' bq (.int .i64 U0) (.int .i64 U1) (.int .i64 U2) → w'.cell? ⟨bq, 0, none⟩ = some (.int .i64 U0) := fun _ h => h.c0
  have V0 : ∀ w', C3 w' bd (.int .i64 D0) (.int .i64 D1) (.int .i64 D2) → w'.cell? ⟨bd, 0, none⟩ = some (.int .i64 D0) := fun _ h => h.c0
  have F1 : ∀ w', C3 w' bq (.int .i64 U0) (.int .i64 U1) (.int .i64 U2) → w'.cell? ⟨bq, 1, none⟩ = some (.int .i64 U1) := fun _ h => h.c1
  have V1 : ∀ w', C3 w' bd (.int .i64 D0) (.int .i64 D1) (.int .i64 D2) → w'.cell? ⟨bd, 1, none⟩ = some (.int .i64 D1) := fun _ h => h.c1
  have F2 : ∀ w', C3 w' bq (.int .i64 U0) (.int .i64 U1) (.int .i64 U2) → w'.cell? ⟨bq, 2, none⟩ = some (.int .i64 U2) := fun _ h => h.c2
  have V2 : ∀ w', C3 w' bd (.int .i64 D0) (.int .i64 D1) (.int .i64 D2) → w'.cell? ⟨bd, 2, none⟩ = some (.int .i64 D2) := fun _ h => h.c2
  generalize hR : posn (rd (U0 * cn s + D0 * sn s)) (rd (U1 * cn s + D1 * sn s)) (rd (U2 * cn s + D2 * sn s)) = R at *
  go_region_held3 (fun w' => C3 w' bq (.int .i64 U0) (.int .i64 U1) (.int .i64 U2) ∧ C3 w' bd (.int .i64 D0) (.int .i64 D1) (.int .i64 D2)) (first | with_reducible exact ⟨Q.drew, Q2.drew⟩ | with_reducible exact ⟨Q3, Q4⟩ | with_reducible exact ⟨(Q3.else HNQ.out _).else HNQ.out _, (Q4.else HND.out _).else HND.out _⟩ | with_reducible assumption)
    (first | (go_at_call 37; refine (rround_any _ _ (by omega) (by omega)).mono ?_; rintro e w' ⟨rfl, rfl⟩) | (go_at_call 22; refine (rpos_any _ _ _ _).mono ?_; rintro e w4 ⟨rfl, hb4⟩; rw [hR]; have Q3 := Q.drew.next hb4; have Q4 := Q2.drew.next hb4; have Z4 := Z.drew.next hb4; have B4 := Lib.hid (thn (thn B (bdrew _)) hb4); clear F0 F1 F2 V0 V1 V2 hb4; obtain ⟨z0, z1, z2, z3, zl⟩ := id Z4))
  have Z7 := Z4.put (.int .i64 R.1) (.int .i64 R.2.1)
  have B7 := below_put2 B4.out (b := w.heap.size + 1) (Nat.le_succ _) (.int .i64 R.1) (.int .i64 R.2.1)
  clear z0 z1 z2 z3 zl Z4 Q3 Q4 Q Q2 B4
  generalize (w4.setCell ⟨w.heap.size + 1, 0, none⟩ (.int .i64 R.1)).setCell ⟨w.heap.size + 1, 1, none⟩ (.int .i64 R.2.1) = w5 at Z7 B7 ⊢
  go_wp2
  obtain ⟨z0, z1, z2, z3, zl⟩ := Z7
  exact bodyPost_ret (v := .tuple #[posV R.1 R.2.1, .int .i64 R.2.2]) (by simp [results, Try.results27, go_sem, z0, z1]) rfl ⟨ps3 hh.out.symm, B7⟩
theorem ralong_any (a b t s : Int) (w : World) :
    Calls Try.prog 27 #[posV a b, .int .i64 t, .int .i64 s] w fun e w' => e = Ps3 (alv a b t s) ∧ Below w.heap.size w w' := by
  cases h1 : vd a b
  · exact ralong_a a b t s w h1
  by_cases h2 : s < 0
  · exact ralong_b a b t s w h1 h2
  by_cases h3 : s > 64800000
  · exact ralong_c a b t s w h1 h2 h3
  · exact ralong_d a b t s w h1 h2 h3
end Go.Proofs.Ytgcmmfclnialfaa
