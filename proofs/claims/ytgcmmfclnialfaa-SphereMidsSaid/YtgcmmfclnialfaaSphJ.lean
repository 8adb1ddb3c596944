/- Package sphere: the position halfway. -/
import Derived.Test.YtgcmmfclnialfaaSphG
import Derived.Test.YtgcmmfclnialfaaSphI
import Derived.LoopN
import Derived.Deep.RegionHeld3
import Derived.Deep.DeepCutAuto
namespace Go.Proofs.Ytgcmmfclnialfaa
open Go.RowKit Go.Joins Fdk
set_option linter.unusedVariables false
/-- the position halfway, and the error. -/
def midv (a b c d : Int) : Int × Int × Int := if (dstv a b c d).2 = 0 then (if (dstv a b c d).1 > 48600000 then (0, 0, 10) else posn ((rd (cn a * cn b) + rd (cn c * cn d)) / 2) ((rd (cn a * sn b) + rd (cn c * sn d)) / 2) ((sn a + sn c) / 2)) else (0, 0, (dstv a b c d).2)
theorem mid_cases (a b c d : Int) : ((dstv a b c d = (0, 1)) ∧ Hid (midv a b c d = (0, 0, 1))) ∨ (∃ v, dstv a b c d = (v, 0) ∧ ((v > 48600000 ∧ Hid (midv a b c d = (0, 0, 10))) ∨ ((¬ v > 48600000) ∧ Hid (midv a b c d = posn ((rd (cn a * cn b) + rd (cn c * cn d)) / 2) ((rd (cn a * sn b) + rd (cn c * sn d)) / 2) ((sn a + sn c) / 2))))) := by
  have hd : dstv a b c d = (0, 1) ∨ ∃ v, dstv a b c d = (v, 0) := by
    unfold dstv; split
    · exact .inr ⟨_, rfl⟩
    · exact .inl rfl
  rcases hd with h | ⟨v, h⟩
  · exact .inl ⟨h, Lib.hid (by unfold midv; rw [h, if_neg (by decide)])⟩
  · refine .inr ⟨v, h, ?_⟩
    by_cases h1 : v > 48600000
    · exact .inl ⟨h1, Lib.hid (by unfold midv; rw [h, if_pos rfl, if_pos h1])⟩
    · exact .inr ⟨h1, Lib.hid (by unfold midv; rw [h, if_pos rfl, if_neg h1])⟩
set_option maxHeartbeats 1600000 in
theorem mid_a (a b c d : Int) (w : World) (hd : dstv a b c d = (0, 1)) (hh : Hid (midv a b c d = (0, 0, 1))) :
    Calls Try.prog 33 #[posV a b, posV c d] w fun e w' => e = Ps3 (midv a b c d) ∧ Below w.heap.size w w' := by
  have HD := Lib.hid hd
  clear hd
  go_enter Try.func33, Try.ntmps33
  go_wp2_with fail
  refine (dist_any _ _ _ _ _).mono ?_
  rintro e w1 ⟨rfl, hb⟩
  have B := thn (below_alloc3 w _ _ _) hb
  have Z := (c2_new _ (.int .i64 0) (.int .i64 0) 23).next hb
  simp only [World.alloc, Array.size_push] at Z
  obtain ⟨z0, z1, z2, z3, zl⟩ := id Z
  rw [HD.out]
  go_wp2
  exact bodyPost_ret (v := .tuple #[posV 0 0, .int .i64 1]) (by simp [results, Try.results33, go_sem, *]) rfl ⟨ps3 hh.out.symm, below_put2 B (b := w.heap.size + 1 + 1) (Nat.le_succ_of_le (Nat.le_succ _)) _ _⟩
set_option maxHeartbeats 1600000 in
theorem mid_b (a b c d v : Int) (w : World) (hd : dstv a b c d = (v, 0)) (h1 : v > 48600000) (hh : Hid (midv a b c d = (0, 0, 10))) :
    Calls Try.prog 33 #[posV a b, posV c d] w fun e w' => e = Ps3 (midv a b c d) ∧ Below w.heap.size w w' := by
  have HD := Lib.hid hd
  clear hd
  go_enter Try.func33, Try.ntmps33
  go_wp2_with fail
  refine (dist_any _ _ _ _ _).mono ?_
  rintro e w1 ⟨rfl, hb⟩
  have B := thn (below_alloc3 w _ _ _) hb
  have Z := (c2_new _ (.int .i64 0) (.int .i64 0) 23).next hb
  simp only [World.alloc, Array.size_push] at Z
  obtain ⟨z0, z1, z2, z3, zl⟩ := id Z
  rw [HD.out]
  go_wp2
  exact bodyPost_ret (v := .tuple #[posV 0 0, .int .i64 10]) (by simp [results, Try.results33, go_sem, *]) rfl ⟨ps3 hh.out.symm, below_put2 B (b := w.heap.size + 1 + 1) (Nat.le_succ_of_le (Nat.le_succ _)) _ _⟩
set_option maxHeartbeats 20000000 in
theorem mid_c (a b c d v : Int) (w : World) (hd : dstv a b c d = (v, 0)) (h1 : ¬ v > 48600000) (hh : Hid (midv a b c d = posn ((rd (cn a * cn b) + rd (cn c * cn d)) / 2) ((rd (cn a * sn b) + rd (cn c * sn d)) / 2) ((sn a + sn c) / 2))) :
    Calls Try.prog 33 #[posV a b, posV c d] w fun e w' => e = Ps3 (midv a b c d) ∧ Below w.heap.size w w' := by
  have HD := Lib.hid hd
  clear hd
  go_enter Try.func33, Try.ntmps33
  go_wp2_with fail
  refine (dist_any _ _ _ _ _).mono ?_
  rintro e w1 ⟨rfl, hb⟩
  have B := thn (below_alloc3 w _ _ _) hb
  have T := (((c2_new w (.int .i64 a) (.int .i64 b) 23).alc _).alc _).next hb
  have U := ((c2_new _ (.int .i64 c) (.int .i64 d) 23).alc _).next hb
  have Z := (c2_new _ (.int .i64 0) (.int .i64 0) 23).next hb
  simp only [World.alloc, Array.size_push] at U Z
  rw [HD.out]
  go_wp2
  have L0 : ∀ w', Below w1.heap.size w1 w' → w'.cell? ⟨w.heap.size, 0, none⟩ = some (.int .i64 a) := fun _ h => (T.next h).c0
  have L1 : ∀ w', Below w1.heap.size w1 w' → w'.cell? ⟨w.heap.size, 1, none⟩ = some (.int .i64 b) := fun _ h => (T.next h).c1
  have L2 : ∀ w', Below w1.heap.size w1 w' → w'.cell? ⟨w.heap.size + 1, 0, none⟩ = some (.int .i64 c) := fun _ h => (U.next h).c0
  have L3 : ∀ w', Below w1.heap.size w1 w' → w'.cell? ⟨w.heap.size + 1, 1, none⟩ = some (.int .i64 d) := fun _ h => (U.next h).c1
  have hle1 : Hid (w1.heap.size ≤ w1.heap.size) := Lib.hid (Nat.le_refl _)
  have hle2 : Hid (w1.heap.size ≤ w1.heap.size + 1) := Lib.hid (Nat.le_succ _)
  have HB0 := Lib.hid B
  have HZ0 := Lib.hid Z
  clear T U B Z hb
  go_cut [8, 9] (fun s8 s9 wx => ∃ ba bb : Nat, s8 = .pointer (some ⟨ba, 0, none⟩) ∧ s9 = .pointer (some ⟨bb, 0, none⟩) ∧ C3 wx ba (.int .i64 (rd (cn a * cn b))) (.int .i64 (rd (cn a * sn b))) (.int .i64 (sn a)) ∧ C3 wx bb (.int .i64 (rd (cn c * cn d))) (.int .i64 (rd (cn c * sn d))) (.int .i64 (sn c)) ∧ Below w1.heap.size w1 wx)
  case first =>
    go_region_held3 (fun w' => Below w1.heap.size w1 w') (first | with_reducible exact hS3 | with_reducible exact alc hS3 _ | with_reducible exact alc (alc hS3 _) _ | with_reducible (refine alc (below_put3 hS3 ?_ _ _ _) _; (first | exact hle1.out | exact hle2.out | exact hle3.out | exact hle4.out | exact hS3.size)) | with_reducible (refine below_put3 hS3 ?_ _ _ _; (first | exact hle1.out | exact hle2.out | exact hle3.out | exact hle4.out | exact hS3.size)) | with_reducible (refine below_put3 (below_put3 hS3 ?_ _ _ _) ?_ _ _ _ <;> (first | exact hle1.out | exact hle2.out | exact hle3.out | exact hle4.out | exact hS3.size)) | with_reducible exact hS2 | with_reducible exact alc hS2 _ | with_reducible exact alc (alc hS2 _) _ | with_reducible exact bdrew _ | with_reducible exact thn (below_alloc1 w1 _) (bdrew _) | with_reducible exact thn (below_alloc2 w1 _ _) (bdrew _))
      (first | (go_at_call 35; with_reducible refine (of_any a b _).mono ?_; rintro e w2 ⟨rfl, hb2⟩; (first | (have hS2 := thn (bdrew w1) hb2) | (have hS2 := thn (thn (below_alloc1 w1 _) (bdrew _)) hb2; have P := (c3_new w1 (.int .i64 0) (.int .i64 0) (.int .i64 0) 26).drew.next hb2) | (have hS2 := thn (thn (below_alloc2 w1 _ _) (bdrew _)) hb2; have P := ((c3_new w1 (.int .i64 0) (.int .i64 0) (.int .i64 0) 26).alc (.cells #[.int .i64 0, .int .i64 0, .int .i64 0] 26)).drew.next hb2; have R := (c3_new (w1.alloc (.cells #[.int .i64 0, .int .i64 0, .int .i64 0] 26)) (.int .i64 0) (.int .i64 0) (.int .i64 0) 26).drew.next hb2; simp only [World.alloc, Array.size_push] at R)); have hle3 : Hid (w1.heap.size ≤ w2.heap.size) := Lib.hid hS2.size; have hle4 : Hid (w1.heap.size ≤ w2.heap.size + 1) := Lib.hid (Nat.le_succ_of_le hS2.size); clear L0 L1 L2 L3) | (go_at_call 35; with_reducible refine (of_any c d _).mono ?_; rintro e w3 ⟨rfl, hb3⟩; (first | (have hS3 := thn hS2 hb3; (try (have P3 := P.next hb3; obtain ⟨p0, p1, p2, p3, p4, p5, pl⟩ := id P3)); (try (have R3 := R.next hb3; obtain ⟨r0, r1, r2, r3, r4, r5, rl⟩ := id R3))) | (have hS3 := thn (alc hS2 _) hb3; (try (have P3 := (P.alc _).next hb3; have ne1 := Nat.ne_of_lt P.lt; have ne2 := Nat.ne_of_gt P.lt; obtain ⟨p0, p1, p2, p3, p4, p5, pl⟩ := id P3)); have Q3 := (c3_new w2 (.int .i64 0) (.int .i64 0) (.int .i64 0) 26).next hb3; obtain ⟨q0, q1, q2, q3, q4, q5, ql⟩ := id Q3) | (have hS3 := thn (alc (alc hS2 _) _) hb3; have Q3 := ((c3_new w2 (.int .i64 0) (.int .i64 0) (.int .i64 0) 26).alc (.cells #[.int .i64 0, .int .i64 0, .int .i64 0] 26)).next hb3; have R3 := (c3_new (w2.alloc (.cells #[.int .i64 0, .int .i64 0, .int .i64 0] 26)) (.int .i64 0) (.int .i64 0) (.int .i64 0) 26).next hb3; simp only [World.alloc, Array.size_push] at R3; obtain ⟨q0, q1, q2, q3, q4, q5, ql⟩ := id Q3; obtain ⟨r0, r1, r2, r3, r4, r5, rl⟩ := id R3))))
    all_goals (go_wp2_with fail; go_meet)
    all_goals (first | (with_reducible exact ⟨_, _, rfl, rfl, (c3_new w3 _ _ _ _).alc _, c3_new1 w3 _ _ _ _ _, alc (alc hS3 _) _⟩) | (with_reducible exact ⟨_, _, rfl, rfl, c3_new1 w3 _ _ _ _ _, (c3_new w3 _ _ _ _).alc _, alc (alc hS3 _) _⟩) | (with_reducible exact ⟨_, _, rfl, rfl, (P3.put _ _ _).alc _, c3_newp w3 _ _ _ _ _ _ _ _, alc (below_put3 hS3 (by first | exact hle1.out | exact hle2.out | exact hle3.out | exact hle4.out | exact hS3.size) _ _ _) _⟩) | (with_reducible exact ⟨_, _, rfl, rfl, c3_newp w3 _ _ _ _ _ _ _ _, (P3.put _ _ _).alc _, alc (below_put3 hS3 (by first | exact hle1.out | exact hle2.out | exact hle3.out | exact hle4.out | exact hS3.size) _ _ _) _⟩) | (with_reducible exact ⟨_, _, rfl, rfl, (Q3.put _ _ _).alc _, c3_newp w3 _ _ _ _ _ _ _ _, alc (below_put3 hS3 (by first | exact hle1.out | exact hle2.out | exact hle3.out | exact hle4.out | exact hS3.size) _ _ _) _⟩) | (with_reducible exact ⟨_, _, rfl, rfl, c3_newp w3 _ _ _ _ _ _ _ _, (Q3.put _ _ _).alc _, alc (below_put3 hS3 (by first | exact hle1.out | exact hle2.out | exact hle3.out | exact hle4.out | exact hS3.size) _ _ _) _⟩) | (with_reducible exact ⟨_, _, rfl, rfl, (R3.put _ _ _).alc _, c3_newp w3 _ _ _ _ _ _ _ _, alc (below_put3 hS3 (by first | exact hle1.out | exact hle2.out | exact hle3.out | exact hle4.out | exact hS3.size) _ _ _) _⟩) | (with_reducible exact ⟨_, _, rfl, rfl, c3_newp w3 _ _ _ _ _ _ _ _, (R3.put _ _ _).alc _, alc (below_put3 hS3 (by first | exact hle1.out | exact hle2.out | exact hle3.out | exact hle4.out | exact hS3.size) _ _ _) _⟩) | (with_reducible exact ⟨_, _, rfl, rfl, (P3.put _ _ _).else3 (by first | exact ne1 | exact ne2 | exact Nat.succ_ne_self _ | exact (Nat.succ_ne_self _).symm) _ _ _, (Q3.else3 (by first | exact ne1 | exact ne2 | exact Nat.succ_ne_self _ | exact (Nat.succ_ne_self _).symm) _ _ _).put _ _ _, below_put3 (below_put3 hS3 (by first | exact hle1.out | exact hle2.out | exact hle3.out | exact hle4.out | exact hS3.size) _ _ _) (by first | exact hle1.out | exact hle2.out | exact hle3.out | exact hle4.out | exact hS3.size) _ _ _⟩) | (with_reducible exact ⟨_, _, rfl, rfl, (P3.put _ _ _).else3 (by first | exact ne1 | exact ne2 | exact Nat.succ_ne_self _ | exact (Nat.succ_ne_self _).symm) _ _ _, (R3.else3 (by first | exact ne1 | exact ne2 | exact Nat.succ_ne_self _ | exact (Nat.succ_ne_self _).symm) _ _ _).put _ _ _, below_put3 (below_put3 hS3 (by first | exact hle1.out | exact hle2.out | exact hle3.out | exact hle4.out | exact hS3.size) _ _ _) (by first | exact hle1.out | exact hle2.out | exact hle3.out | exact hle4.out | exact hS3.size) _ _ _⟩) | (with_reducible exact ⟨_, _, rfl, rfl, (Q3.put _ _ _).else3 (by first | exact ne1 | exact ne2 | exact Nat.succ_ne_self _ | exact (Nat.succ_ne_self _).symm) _ _ _, (P3.else3 (by first | exact ne1 | exact ne2 | exact Nat.succ_ne_self _ | exact (Nat.succ_ne_self _).symm) _ _ _).put _ _ _, below_put3 (below_put3 hS3 (by first | exact hle1.out | exact hle2.out | exact hle3.out | exact hle4.out | exact hS3.size) _ _ _) (by first | exact hle1.out | exact hle2.out | exact hle3.out | exact hle4.out | exact hS3.size) _ _ _⟩) | (with_reducible exact ⟨_, _, rfl, rfl, (Q3.put _ _ _).else3 (by first | exact ne1 | exact ne2 | exact Nat.succ_ne_self _ | exact (Nat.succ_ne_self _).symm) _ _ _, (R3.else3 (by first | exact ne1 | exact ne2 | exact Nat.succ_ne_self _ | exact (Nat.succ_ne_self _).symm) _ _ _).put _ _ _, below_put3 (below_put3 hS3 (by first | exact hle1.out | exact hle2.out | exact hle3.out | exact hle4.out | exact hS3.size) _ _ _) (by first | exact hle1.out | exact hle2.out | exact hle3.out | exact hle4.out | exact hS3.size) _ _ _⟩) | (with_reducible exact ⟨_, _, rfl, rfl, (R3.put _ _ _).else3 (by first | exact ne1 | exact ne2 | exact Nat.succ_ne_self _ | exact (Nat.succ_ne_self _).symm) _ _ _, (P3.else3 (by first | exact ne1 | exact ne2 | exact Nat.succ_ne_self _ | exact (Nat.succ_ne_self _).symm) _ _ _).put _ _ _, below_put3 (below_put3 hS3 (by first | exact hle1.out | exact hle2.out | exact hle3.out | exact hle4.out | exact hS3.size) _ _ _) (by first | exact hle1.out | exact hle2.out | exact hle3.out | exact hle4.out | exact hS3.size) _ _ _⟩) | (with_reducible exact ⟨_, _, rfl, rfl, (R3.put _ _ _).else3 (by first | exact ne1 | exact ne2 | exact Nat.succ_ne_self _ | exact (Nat.succ_ne_self _).symm) _ _ _, (Q3.else3 (by first | exact ne1 | exact ne2 | exact Nat.succ_ne_self _ | exact (Nat.succ_ne_self _).symm) _ _ _).put _ _ _, below_put3 (below_put3 hS3 (by first | exact hle1.out | exact hle2.out | exact hle3.out | exact hle4.out | exact hS3.size) _ _ _) (by first | exact hle1.out | exact hle2.out | exact hle3.out | exact hle4.out | exact hS3.size) _ _ _⟩))
  case rest =>
  obtain ⟨ba, bb, rfl, rfl, FA, FB, B2⟩ := hcut
  clear L0 L1 L2 L3 hle1 hle2
  have B3 := Lib.hid (thn HB0.out B2)
  have Z3 := Lib.hid (HZ0.out.next B2)
  have ⟨bX10, bX11⟩ := rd_b (cc_b a b).1 (cc_b a b).2
  have ⟨bY10, bY11⟩ := rd_b (cs_b a b).1 (cs_b a b).2
  have ⟨bZ10, bZ11⟩ := sn_b a
  have ⟨bX20, bX21⟩ := rd_b (cc_b c d).1 (cc_b c d).2
  have ⟨bY20, bY21⟩ := rd_b (cs_b c d).1 (cs_b c d).2
  have ⟨bZ20, bZ21⟩ := sn_b c
  clear HB0 HZ0 B2
  generalize rd (cn a * cn b) = X1 at *
  generalize rd (cn a * sn b) = Y1 at *
  generalize sn a = Z1 at *
  generalize rd (cn c * cn d) = X2 at *
  generalize rd (cn c * sn d) = Y2 at *
  generalize sn c = Z2 at *
  have na : wc.heap.size ≠ ba := Nat.ne_of_gt FA.lt
  have nb : wc.heap.size ≠ bb := Nat.ne_of_gt FB.lt
  have nz : wc.heap.size ≠ w.heap.size + 1 + 1 := Nat.ne_of_gt Z3.out.lt
  have V := c3_new wc (.int .i64 0) (.int .i64 0) (.int .i64 0) 26
  have hbv : w.heap.size ≤ wc.heap.size := B3.out.size
  replace FA := FA.alc (.cells #[.int .i64 0, .int .i64 0, .int .i64 0] 26)
  replace FB := FB.alc (.cells #[.int .i64 0, .int .i64 0, .int .i64 0] 26)
  have B4 := Lib.hid (alc B3.out (.cells #[.int .i64 0, .int .i64 0, .int .i64 0] 26))
  have Z4 := Lib.hid (Z3.out.alc (.cells #[.int .i64 0, .int .i64 0, .int .i64 0] 26))
  have HNA := Lib.hid na
  have HNB := Lib.hid nb
  have HNZ := Lib.hid nz
  have HBV := Lib.hid hbv
  clear na nb nz hbv B3 Z3
  go_wp2
  generalize wc.heap.size = bv at *
  generalize wc.alloc (.cells #[.int .i64 0, .int .i64 0, .int .i64 0] 26) = v0 at *
  have A0 : ∀ w', C3 w' ba (.int .i64 X1) (.int .i64 Y1) (.int .i64 Z1) → w'.cell? ⟨ba, 0, none⟩ = some (.int .i64 X1) := fun _ h => h.c0
  have A1 : ∀ w', C3 w' ba (.int .i64 X1) (.int .i64 Y1) (.int .i64 Z1) → w'.cell? ⟨ba, 1, none⟩ = some (.int .i64 Y1) := fun _ h => h.c1
  have A2 : ∀ w', C3 w' ba (.int .i64 X1) (.int .i64 Y1) (.int .i64 Z1) → w'.cell? ⟨ba, 2, none⟩ = some (.int .i64 Z1) := fun _ h => h.c2
  have C0 : ∀ w', C3 w' bb (.int .i64 X2) (.int .i64 Y2) (.int .i64 Z2) → w'.cell? ⟨bb, 0, none⟩ = some (.int .i64 X2) := fun _ h => h.c0
  have C1 : ∀ w', C3 w' bb (.int .i64 X2) (.int .i64 Y2) (.int .i64 Z2) → w'.cell? ⟨bb, 1, none⟩ = some (.int .i64 Y2) := fun _ h => h.c1
  have C2 : ∀ w', C3 w' bb (.int .i64 X2) (.int .i64 Y2) (.int .i64 Z2) → w'.cell? ⟨bb, 2, none⟩ = some (.int .i64 Z2) := fun _ h => h.c2
  have eSX : IntKind.i64.wrap (X1 + X2) = X1 + X2 := IntWalk.i64_in _ (by omega)
  have eSY : IntKind.i64.wrap (Y1 + Y2) = Y1 + Y2 := IntWalk.i64_in _ (by omega)
  have eSZ : IntKind.i64.wrap (Z1 + Z2) = Z1 + Z2 := IntWalk.i64_in _ (by omega)
  refine wp_loop_rounds 4 ?_
  obtain ⟨g0, g1, g2, g3, g4, g5, gl⟩ := id V
  rw [rounds_succ]
  go_wp2
  go_region_held3 (fun w' => C3 w' ba (.int .i64 X1) (.int .i64 Y1) (.int .i64 Z1) ∧ C3 w' bb (.int .i64 X2) (.int .i64 Y2) (.int .i64 Z2)) (first | with_reducible exact ⟨FA.drew, FB.drew⟩ | with_reducible exact ⟨(FA.else HNA.out _).drew, (FB.else HNB.out _).drew⟩ | with_reducible exact ⟨FA, FB⟩) (fail)
  replace FA := (FA.else (p := ⟨bv, 0, none⟩) HNA.out (.int .i64 ((X1 + X2) / 2))).drew
  replace FB := (FB.else (p := ⟨bv, 0, none⟩) HNB.out (.int .i64 ((X1 + X2) / 2))).drew
  replace V := (V.put0 (.int .i64 ((X1 + X2) / 2))).drew
  have B5 := Lib.hid (thn (B4.out.setCell (p := ⟨bv, 0, none⟩) HBV.out (.int .i64 ((X1 + X2) / 2))) (bdrew _))
  have Z5 := Lib.hid ((Z4.out.else (p := ⟨bv, 0, none⟩) HNZ.out (.int .i64 ((X1 + X2) / 2))).drew)
  clear g0 g1 g2 g3 g4 g5 gl
  generalize (v0.setCell ⟨bv, 0, none⟩ (.int .i64 ((X1 + X2) / 2))).drew = v1 at *
  go_wp2
  obtain ⟨g0, g1, g2, g3, g4, g5, gl⟩ := id V
  rw [rounds_succ]
  go_wp2
  go_region_held3 (fun w' => C3 w' ba (.int .i64 X1) (.int .i64 Y1) (.int .i64 Z1) ∧ C3 w' bb (.int .i64 X2) (.int .i64 Y2) (.int .i64 Z2)) (first | with_reducible exact ⟨FA.drew, FB.drew⟩ | with_reducible exact ⟨(FA.else HNA.out _).drew, (FB.else HNB.out _).drew⟩ | with_reducible exact ⟨FA, FB⟩) (fail)
  replace FA := (FA.else (p := ⟨bv, 1, none⟩) HNA.out (.int .i64 ((Y1 + Y2) / 2))).drew
  replace FB := (FB.else (p := ⟨bv, 1, none⟩) HNB.out (.int .i64 ((Y1 + Y2) / 2))).drew
  replace V := (V.put1 (.int .i64 ((Y1 + Y2) / 2))).drew
  have B6 := Lib.hid (thn (B5.out.setCell (p := ⟨bv, 1, none⟩) HBV.out (.int .i64 ((Y1 + Y2) / 2))) (bdrew _))
  have Z6 := Lib.hid ((Z5.out.else (p := ⟨bv, 1, none⟩) HNZ.out (.int .i64 ((Y1 + Y2) / 2))).drew)
  clear g0 g1 g2 g3 g4 g5 gl
  generalize (v1.setCell ⟨bv, 1, none⟩ (.int .i64 ((Y1 + Y2) / 2))).drew = v2 at *
  go_wp2
  obtain ⟨g0, g1, g2, g3, g4, g5, gl⟩ := id V
  rw [rounds_succ]
  go_wp2
  go_region_held3 (fun w' => C3 w' ba (.int .i64 X1) (.int .i64 Y1) (.int .i64 Z1) ∧ C3 w' bb (.int .i64 X2) (.int .i64 Y2) (.int .i64 Z2)) (first | with_reducible exact ⟨FA.drew, FB.drew⟩ | with_reducible exact ⟨(FA.else HNA.out _).drew, (FB.else HNB.out _).drew⟩ | with_reducible exact ⟨FA, FB⟩) (fail)
  replace FA := (FA.else (p := ⟨bv, 2, none⟩) HNA.out (.int .i64 ((Z1 + Z2) / 2))).drew
  replace FB := (FB.else (p := ⟨bv, 2, none⟩) HNB.out (.int .i64 ((Z1 + Z2) / 2))).drew
  replace V := (V.put2 (.int .i64 ((Z1 + Z2) / 2))).drew
  have B7 := Lib.hid (thn (B6.out.setCell (p := ⟨bv, 2, none⟩) HBV.out (.int .i64 ((Z1 + Z2) / 2))) (bdrew _))
  have Z7 := Lib.hid ((Z6.out.else (p := ⟨bv, 2, none⟩) HNZ.out (.int .i64 ((Z1 + Z2) / 2))).drew)
  clear g0 g1 g2 g3 g4 g5 gl
  generalize (v2.setCell ⟨bv, 2, none⟩ (.int .i64 ((Z1 + Z2) / 2))).drew = v3 at *
  go_wp2
  obtain ⟨g0, g1, g2, g3, g4, g5, gl⟩ := id V
  rw [rounds_succ]
  go_wp2_with fail
  refine (pos_any _ _ _ _).mono ?_
  rintro e w2 ⟨rfl, hb2⟩
  have B8 := Lib.hid (thn B7.out hb2)
  have Z8 := Z7.out.next hb2
  clear hb2 g0 g1 g2 g3 g4 g5 gl V FA FB
  obtain ⟨z0, z1, z2, z3, zl⟩ := id Z8
  generalize posn ((X1 + X2) / 2) ((Y1 + Y2) / 2) ((Z1 + Z2) / 2) = R at *
  go_wp2
  exact bodyPost_ret (v := .tuple #[posV R.1 R.2.1, .int .i64 R.2.2]) (by simp [results, Try.results33, go_sem, *]) rfl ⟨ps3 hh.out.symm, below_put2 B8.out (b := w.heap.size + 1 + 1) (Nat.le_succ_of_le (Nat.le_succ _)) _ _⟩
theorem mid_any (a b c d : Int) (w : World) :
    Calls Try.prog 33 #[posV a b, posV c d] w fun e w' => e = Ps3 (midv a b c d) ∧ Below w.heap.size w w' := by
  rcases mid_cases a b c d with ⟨hd, hh⟩ | ⟨v, hd, ⟨h1, hh⟩ | ⟨h1, hh⟩⟩
  · exact mid_a a b c d w hd hh
  · exact mid_b a b c d v w hd h1 hh
  · exact mid_c a b c d v w hd h1 hh
end Go.Proofs.Ytgcmmfclnialfaa
