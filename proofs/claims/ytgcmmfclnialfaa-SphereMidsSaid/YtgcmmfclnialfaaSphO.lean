/- The reference of package sphere: Mid. -/
import Derived.Test.YtgcmmfclnialfaaSphN
import Derived.Test.YtgcmmfclnialfaaSphJ
import Derived.Test.YtgcmmfclnialfaaSphC
namespace Go.Proofs.Ytgcmmfclnialfaa
open Go.RowKit Go.Joins Fdk
set_option linter.unusedVariables false
set_option maxHeartbeats 1600000 in
theorem rmid_a (a b c d : Int) (w : World) (hd : dstv a b c d = (0, 1)) (hh : Hid (midv a b c d = (0, 0, 1))) :
    Calls Try.prog 34 #[posV a b, posV c d] w fun e w' => e = Ps3 (midv a b c d) ∧ Below w.heap.size w w' := by
  have HD := Lib.hid hd
  clear hd
  go_enter Try.func34, Try.ntmps34
  go_wp2_with fail
  refine (rdist_any _ _ _ _ _).mono ?_
  rintro e w1 ⟨rfl, hb⟩
  have B := thn (below_alloc3 w _ _ _) hb
  have Z := (c2_new _ (.int .i64 0) (.int .i64 0) 23).next hb
  simp only [World.alloc, Array.size_push] at Z
  obtain ⟨z0, z1, z2, z3, zl⟩ := id Z
  rw [HD.out]
  go_wp2
  exact bodyPost_ret (v := .tuple #[posV 0 0, .int .i64 1]) (by simp [results, Try.results34, go_sem, *]) rfl ⟨ps3 hh.out.symm, below_put2 B (b := w.heap.size + 1 + 1) (Nat.le_succ_of_le (Nat.le_succ _)) _ _⟩
set_option maxHeartbeats 1600000 in
theorem rmid_b (a b c d v : Int) (w : World) (hd : dstv a b c d = (v, 0)) (h1 : v > 48600000) (hh : Hid (midv a b c d = (0, 0, 10))) :
    Calls Try.prog 34 #[posV a b, posV c d] w fun e w' => e = Ps3 (midv a b c d) ∧ Below w.heap.size w w' := by
  have HD := Lib.hid hd
  clear hd
  go_enter Try.func34, Try.ntmps34
  go_wp2_with fail
  refine (rdist_any _ _ _ _ _).mono ?_
  rintro e w1 ⟨rfl, hb⟩
  have B := thn (below_alloc3 w _ _ _) hb
  have Z := (c2_new _ (.int .i64 0) (.int .i64 0) 23).next hb
  simp only [World.alloc, Array.size_push] at Z
  obtain ⟨z0, z1, z2, z3, zl⟩ := id Z
  rw [HD.out]
  go_wp2
  exact bodyPost_ret (v := .tuple #[posV 0 0, .int .i64 10]) (by simp [results, Try.results34, go_sem, *]) rfl ⟨ps3 hh.out.symm, below_put2 B (b := w.heap.size + 1 + 1) (Nat.le_succ_of_le (Nat.le_succ _)) _ _⟩
set_option maxHeartbeats 4000000 in
theorem rmid_c (a b c d v : Int) (w : World) (hd : dstv a b c d = (v, 0)) (h1 : ¬ v > 48600000) (hh : Hid (midv a b c d = posn ((rd (cn a * cn b) + rd (cn c * cn d)) / 2) ((rd (cn a * sn b) + rd (cn c * sn d)) / 2) ((sn a + sn c) / 2))) :
    Calls Try.prog 34 #[posV a b, posV c d] w fun e w' => e = Ps3 (midv a b c d) ∧ Below w.heap.size w w' := by
  have hv : vd a b = true ∧ vd c d = true := by
    unfold dstv at hd
    split at hd
    · next hv => simpa using hv
    · exact absurd (Prod.mk.inj hd).2 (by omega)
  obtain ⟨k1, k2⟩ := hv
  have HO := Lib.hid (show ofv a b = (rd (cn a * cn b), rd (cn a * sn b), sn a, 0) by simp [ofv, k1])
  have HQ := Lib.hid (show ofv c d = (rd (cn c * cn d), rd (cn c * sn d), sn c, 0) by simp [ofv, k2])
  have HD := Lib.hid hd
  clear hd k1 k2
  go_enter Try.func34, Try.ntmps34
  go_wp2_with fail
  refine (rdist_any _ _ _ _ _).mono ?_
  rintro e w0 ⟨rfl, hb⟩
  have B := thn (below_alloc3 w _ _ _) hb
  have T := (((c2_new w (.int .i64 a) (.int .i64 b) 23).alc _).alc _).next hb
  have U := ((c2_new _ (.int .i64 c) (.int .i64 d) 23).alc _).next hb
  have Z := (c2_new _ (.int .i64 0) (.int .i64 0) 23).next hb
  simp only [World.alloc, Array.size_push] at U Z
  obtain ⟨t0, t1, t2, t3, tl⟩ := id T
  rw [HD.out]
  go_wp2_with fail
  clear t0 t1 t2 t3 tl
  refine (rOf_any _ _ _).mono ?_
  rintro e w1 ⟨rfl, hb1⟩
  replace B := alc (thn B hb1) (.cells #[.int .i64 (rd (cn a * cn b)), .int .i64 (rd (cn a * sn b)), .int .i64 (sn a)] 26)
  replace U := (U.next hb1).alc (.cells #[.int .i64 (rd (cn a * cn b)), .int .i64 (rd (cn a * sn b)), .int .i64 (sn a)] 26)
  replace Z := (Z.next hb1).alc (.cells #[.int .i64 (rd (cn a * cn b)), .int .i64 (rd (cn a * sn b)), .int .i64 (sn a)] 26)
  have P := c3_new w1 (.int .i64 (rd (cn a * cn b))) (.int .i64 (rd (cn a * sn b))) (.int .i64 (sn a)) 26
  clear T hb hb1
  rw [HO.out]
  obtain ⟨d0, d1, j0, j1, l1⟩ := id U
  go_wp2_with fail
  clear d0 d1 j0 j1 l1
  generalize w1.alloc (.cells #[.int .i64 (rd (cn a * cn b)), .int .i64 (rd (cn a * sn b)), .int .i64 (sn a)] 26) = v1 at *
  generalize w1.heap.size = bp at *
  refine (rOf_any _ _ _).mono ?_
  rintro e w2 ⟨rfl, hb2⟩
  replace B := alc (thn B hb2) (.cells #[.int .i64 (rd (cn c * cn d)), .int .i64 (rd (cn c * sn d)), .int .i64 (sn c)] 26)
  replace Z := (Z.next hb2).alc (.cells #[.int .i64 (rd (cn c * cn d)), .int .i64 (rd (cn c * sn d)), .int .i64 (sn c)] 26)
  replace P := (P.next hb2).alc (.cells #[.int .i64 (rd (cn c * cn d)), .int .i64 (rd (cn c * sn d)), .int .i64 (sn c)] 26)
  have Q := c3_new w2 (.int .i64 (rd (cn c * cn d))) (.int .i64 (rd (cn c * sn d))) (.int .i64 (sn c)) 26
  clear U hb2
  rw [HQ.out]
  have ⟨bX10, bX11⟩ := rd_b (cc_b a b).1 (cc_b a b).2
  have ⟨bY10, bY11⟩ := rd_b (cs_b a b).1 (cs_b a b).2
  have ⟨bZ10, bZ11⟩ := sn_b a
  have ⟨bX20, bX21⟩ := rd_b (cc_b c d).1 (cc_b c d).2
  have ⟨bY20, bY21⟩ := rd_b (cs_b c d).1 (cs_b c d).2
  have ⟨bZ20, bZ21⟩ := sn_b c
  generalize rd (cn a * cn b) = X1 at *
  generalize rd (cn a * sn b) = Y1 at *
  generalize sn a = Z1 at *
  generalize rd (cn c * cn d) = X2 at *
  generalize rd (cn c * sn d) = Y2 at *
  generalize sn c = Z2 at *
  have eSX : IntKind.i64.wrap (X1 + X2) = X1 + X2 := IntWalk.i64_in _ (by omega)
  have eSY : IntKind.i64.wrap (Y1 + Y2) = Y1 + Y2 := IntWalk.i64_in _ (by omega)
  have eSZ : IntKind.i64.wrap (Z1 + Z2) = Z1 + Z2 := IntWalk.i64_in _ (by omega)
  obtain ⟨i0, i1, i2, i3, i4, i5, il⟩ := id P
  obtain ⟨k0, k1, k2, k3, k4, k5, kl⟩ := id Q
  go_wp2_with fail
  refine (rpos_any _ _ _ _).mono ?_
  rintro e w3 ⟨rfl, hb3⟩
  replace B := thn B hb3
  replace Z := Z.next hb3
  clear i0 i1 i2 i3 i4 i5 il k0 k1 k2 k3 k4 k5 kl P Q hb3
  obtain ⟨z0, z1, z2, z3, zl⟩ := id Z
  generalize posn ((X1 + X2) / 2) ((Y1 + Y2) / 2) ((Z1 + Z2) / 2) = R at *
  go_wp2
  exact bodyPost_ret (v := .tuple #[posV R.1 R.2.1, .int .i64 R.2.2]) (by simp [results, Try.results34, go_sem, *]) rfl ⟨ps3 hh.out.symm, below_put2 B (b := w.heap.size + 1 + 1) (Nat.le_succ_of_le (Nat.le_succ _)) _ _⟩
theorem rmid_any (a b c d : Int) (w : World) :
    Calls Try.prog 34 #[posV a b, posV c d] w fun e w' => e = Ps3 (midv a b c d) ∧ Below w.heap.size w w' := by
  rcases mid_cases a b c d with ⟨hd, hh⟩ | ⟨v, hd, ⟨h1, hh⟩ | ⟨h1, hh⟩⟩
  · exact rmid_a a b c d w hd hh
  · exact rmid_b a b c d v w hd h1 hh
  · exact rmid_c a b c d v w hd h1 hh
end Go.Proofs.Ytgcmmfclnialfaa
