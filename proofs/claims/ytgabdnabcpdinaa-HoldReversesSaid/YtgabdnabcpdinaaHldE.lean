/- Elements: arcs, both sides. -/
import Derived.Test.YtgabdnabcpdinaaHldD
import Derived.Deep.DeepCutAuto
namespace Go.Proofs.Ytgabdnabcpdinaa
open Go.RowKit Go.Joins Fdk
set_option linter.unusedVariables false
set_option maxRecDepth 8000 in
set_option maxHeartbeats 16000000 in
theorem arc_any (a b c d x y r f s : Int) (w : World) :
    Calls Try.prog 24 #[ptV a b, ptV c d, ptV x y, .int .i64 r, .int .i64 f, .int .i64 s] w fun e w' => e = .returned (elV true a b c d x y r (f % 129600000) s (alen x y r (f % 129600000) s) 0 false) ∧ Below w.heap.size w w' := by
  have HN := Lib.hid (fun w => norm_any f w)
  have HD := Lib.hid (fun w => alen_any x y r (f % 129600000) s w)
  generalize f % 129600000 = F at *
  generalize alen x y r F s = L at *
  go_enter Try.func24, Try.ntmps24
  go_wp2_with fail
  have T := (((c2_new w (.int .i64 a) (.int .i64 b) 30).alc (.cells #[.int .i64 c, .int .i64 d] 30)).alc (.cells #[.int .i64 x, .int .i64 y] 30)).alc (.cells #[.bool false, .int .i64 0, .int .i64 0, .int .i64 0, .int .i64 0, .int .i64 0, .int .i64 0, .int .i64 0, .int .i64 0, .int .i64 0, .int .i64 0, .int .i64 0, .bool false] 43)
  have U := ((c2_new (w.alloc (.cells #[.int .i64 a, .int .i64 b] 30)) (.int .i64 c) (.int .i64 d) 30).alc (.cells #[.int .i64 x, .int .i64 y] 30)).alc (.cells #[.bool false, .int .i64 0, .int .i64 0, .int .i64 0, .int .i64 0, .int .i64 0, .int .i64 0, .int .i64 0, .int .i64 0, .int .i64 0, .int .i64 0, .int .i64 0, .bool false] 43)
  have V := (c2_new ((w.alloc (.cells #[.int .i64 a, .int .i64 b] 30)).alloc (.cells #[.int .i64 c, .int .i64 d] 30)) (.int .i64 x) (.int .i64 y) 30).alc (.cells #[.bool false, .int .i64 0, .int .i64 0, .int .i64 0, .int .i64 0, .int .i64 0, .int .i64 0, .int .i64 0, .int .i64 0, .int .i64 0, .int .i64 0, .int .i64 0, .bool false] 43)
  have Z := c13_new (((w.alloc (.cells #[.int .i64 a, .int .i64 b] 30)).alloc (.cells #[.int .i64 c, .int .i64 d] 30)).alloc (.cells #[.int .i64 x, .int .i64 y] 30)) (.bool false) (.int .i64 0) (.int .i64 0) (.int .i64 0) (.int .i64 0) (.int .i64 0) (.int .i64 0) (.int .i64 0) (.int .i64 0) (.int .i64 0) (.int .i64 0) (.int .i64 0) (.bool false) 43
  have B := alc (below_alloc3 w (.cells #[.int .i64 a, .int .i64 b] 30) (.cells #[.int .i64 c, .int .i64 d] 30) (.cells #[.int .i64 x, .int .i64 y] 30)) (.cells #[.bool false, .int .i64 0, .int .i64 0, .int .i64 0, .int .i64 0, .int .i64 0, .int .i64 0, .int .i64 0, .int .i64 0, .int .i64 0, .int .i64 0, .int .i64 0, .bool false] 43)
  rw [show (w.alloc (.cells #[.int .i64 a, .int .i64 b] 30)).heap.size = w.heap.size + 1 by simp] at U
  rw [show ((w.alloc (.cells #[.int .i64 a, .int .i64 b] 30)).alloc (.cells #[.int .i64 c, .int .i64 d] 30)).heap.size = w.heap.size + 1 + 1 by simp] at V
  rw [show (((w.alloc (.cells #[.int .i64 a, .int .i64 b] 30)).alloc (.cells #[.int .i64 c, .int .i64 d] 30)).alloc (.cells #[.int .i64 x, .int .i64 y] 30)).heap.size = w.heap.size + 1 + 1 + 1 by simp] at Z
  generalize ((((w.alloc (.cells #[.int .i64 a, .int .i64 b] 30)).alloc (.cells #[.int .i64 c, .int .i64 d] 30)).alloc (.cells #[.int .i64 x, .int .i64 y] 30)).alloc (.cells #[.bool false, .int .i64 0, .int .i64 0, .int .i64 0, .int .i64 0, .int .i64 0, .int .i64 0, .int .i64 0, .int .i64 0, .int .i64 0, .int .i64 0, .int .i64 0, .bool false] 43)) = w1 at T U V Z B ⊢
  have L0 : ∀ w', Below w1.heap.size w1 w' → w'.cell? ⟨w.heap.size + 1 + 1, 0, none⟩ = some (.int .i64 x) := fun _ h => (V.next h).c0
  have L1 : ∀ w', Below w1.heap.size w1 w' → w'.cell? ⟨w.heap.size + 1 + 1, 1, none⟩ = some (.int .i64 y) := fun _ h => (V.next h).c1
  have HB0 := Lib.hid B
  have HZ0 := Lib.hid Z
  have HT0 := Lib.hid T
  have HU0 := Lib.hid U
  clear B Z T U V
  go_cut [13] (fun s13 wx => ∃ bc : Nat, w1.heap.size ≤ bc ∧ s13 = .pointer (some ⟨bc, 0, none⟩) ∧ C5 wx bc (.int .i64 x) (.int .i64 y) (.int .i64 r) (.int .i64 F) (.int .i64 s) ∧ Below w1.heap.size w1 wx)
  case first =>
    go_region_held3 (fun w' => Below w1.heap.size w1 w') (first | with_reducible exact bdrew _ | with_reducible exact thn (below_alloc1 w1 _) (bdrew _) | with_reducible exact alc (bdrew _) _ | with_reducible exact below_put5 (thn (below_alloc1 w1 _) (bdrew _)) (b := w1.heap.size) (Nat.le_refl _) _ _ _ _ _ | with_reducible exact below_put5 (alc (bdrew _) _) (b := w1.heap.size) (Nat.le_refl _) _ _ _ _ _)
      (first | (go_at_call 13; refine (HN.out _).mono ?_; rintro e w' ⟨rfl, rfl⟩))
    all_goals (go_wp2_with fail; go_meet)
    all_goals exact ⟨_, Nat.le_refl _, rfl, (c5_new w1 _ _ _ _ _ _).drew, thn (below_alloc1 w1 _) (bdrew _)⟩
  case rest =>
  obtain ⟨bc, hle, rfl, Q, B2⟩ := hcut
  have B := thn HB0.out B2
  have Z := HZ0.out.next B2
  have T := HT0.out.next B2
  have U := HU0.out.next B2
  have hzc : w.heap.size + 1 + 1 + 1 ≠ bc := fun h => absurd hle (by have := HZ0.out.lt; omega)
  clear L0 L1 HB0 HZ0 HT0 HU0 B2 hle
  have t0 := T.c0
  have t1 := T.c1
  have u0 := U.c0
  have u1 := U.c1
  have q0 := Q.c0
  have q1 := Q.c1
  have q2 := Q.c2
  have q3 := Q.c3
  have q4 := Q.c4
  go_wp2
  go_region_held (fun w' => w'.cell? ⟨w.heap.size, 0, none⟩ = some (.int .i64 a) ∧ w'.cell? ⟨w.heap.size, 1, none⟩ = some (.int .i64 b) ∧ w'.cell? ⟨w.heap.size + 1, 0, none⟩ = some (.int .i64 c) ∧ w'.cell? ⟨w.heap.size + 1, 1, none⟩ = some (.int .i64 d) ∧ w'.cell? ⟨bc, 0, none⟩ = some (.int .i64 x) ∧ w'.cell? ⟨bc, 1, none⟩ = some (.int .i64 y) ∧ w'.cell? ⟨bc, 2, none⟩ = some (.int .i64 r) ∧ w'.cell? ⟨bc, 3, none⟩ = some (.int .i64 F) ∧ w'.cell? ⟨bc, 4, none⟩ = some (.int .i64 s)) (first | with_reducible exact hS4 | with_reducible exact ⟨o13 (by omega) hS4.1, o13 (by omega) hS4.2.1, o13 (by omega) hS4.2.2.1, o13 (by omega) hS4.2.2.2.1, o13 hzc hS4.2.2.2.2.1, o13 hzc hS4.2.2.2.2.2.1, o13 hzc hS4.2.2.2.2.2.2.1, o13 hzc hS4.2.2.2.2.2.2.2.1, o13 hzc hS4.2.2.2.2.2.2.2.2⟩ | go_keep)
    (first | (go_at_call 30; refine (HD.out _).mono ?_; rintro e w4 ⟨rfl, hb4⟩; have hS4 : w4.cell? ⟨w.heap.size, 0, none⟩ = some (.int .i64 a) ∧ w4.cell? ⟨w.heap.size, 1, none⟩ = some (.int .i64 b) ∧ w4.cell? ⟨w.heap.size + 1, 0, none⟩ = some (.int .i64 c) ∧ w4.cell? ⟨w.heap.size + 1, 1, none⟩ = some (.int .i64 d) ∧ w4.cell? ⟨bc, 0, none⟩ = some (.int .i64 x) ∧ w4.cell? ⟨bc, 1, none⟩ = some (.int .i64 y) ∧ w4.cell? ⟨bc, 2, none⟩ = some (.int .i64 r) ∧ w4.cell? ⟨bc, 3, none⟩ = some (.int .i64 F) ∧ w4.cell? ⟨bc, 4, none⟩ = some (.int .i64 s) := ⟨(T.drew.next hb4).c0, (T.drew.next hb4).c1, (U.drew.next hb4).c0, (U.drew.next hb4).c1, (Q.drew.next hb4).c0, (Q.drew.next hb4).c1, (Q.drew.next hb4).c2, (Q.drew.next hb4).c3, (Q.drew.next hb4).c4⟩; have Z4 := Z.drew.next hb4; have B4 := thn B.drew hb4; clear Z T U Q B hb4 t0 t1 u0 u1 q0 q1 q2 q3 q4; obtain ⟨z0, z1, z2, z3, z4, z5, z6, z7, z8, z9, z10, z11, z12, f0, f1, f2, f3, f4, f5, f6, f7, f8, f9, f10, f11, f12, l⟩ := id Z4))
  clear z0 z1 z2 z3 z4 z5 z6 z7 z8 z9 z10 z11 z12 f0 f1 f2 f3 f4 f5 f6 f7 f8 f9 f10 f11 f12 l hS4
  have Z5 := Z4.put (.bool true) (.int .i64 a) (.int .i64 b) (.int .i64 c) (.int .i64 d) (.int .i64 x) (.int .i64 y) (.int .i64 r) (.int .i64 F) (.int .i64 s) (.int .i64 L) (.int .i64 0) (.bool false)
  have B5 := below_put13 B4 (b := w.heap.size + 1 + 1 + 1) (Nat.le_succ_of_le (Nat.le_succ_of_le (Nat.le_succ _))) (.bool true) (.int .i64 a) (.int .i64 b) (.int .i64 c) (.int .i64 d) (.int .i64 x) (.int .i64 y) (.int .i64 r) (.int .i64 F) (.int .i64 s) (.int .i64 L) (.int .i64 0) (.bool false)
  clear Z4 B4
  generalize (((((((((((((w4.setCell ⟨w.heap.size + 1 + 1 + 1, 0, none⟩ (.bool true)).setCell ⟨w.heap.size + 1 + 1 + 1, 1, none⟩ (.int .i64 a)).setCell ⟨w.heap.size + 1 + 1 + 1, 2, none⟩ (.int .i64 b)).setCell ⟨w.heap.size + 1 + 1 + 1, 3, none⟩ (.int .i64 c)).setCell ⟨w.heap.size + 1 + 1 + 1, 4, none⟩ (.int .i64 d)).setCell ⟨w.heap.size + 1 + 1 + 1, 5, none⟩ (.int .i64 x)).setCell ⟨w.heap.size + 1 + 1 + 1, 6, none⟩ (.int .i64 y)).setCell ⟨w.heap.size + 1 + 1 + 1, 7, none⟩ (.int .i64 r)).setCell ⟨w.heap.size + 1 + 1 + 1, 8, none⟩ (.int .i64 F)).setCell ⟨w.heap.size + 1 + 1 + 1, 9, none⟩ (.int .i64 s)).setCell ⟨w.heap.size + 1 + 1 + 1, 10, none⟩ (.int .i64 L)).setCell ⟨w.heap.size + 1 + 1 + 1, 11, none⟩ (.int .i64 0)).setCell ⟨w.heap.size + 1 + 1 + 1, 12, none⟩ (.bool false)) = w5 at Z5 B5 ⊢
  go_wp2
  obtain ⟨z0, z1, z2, z3, z4, z5, z6, z7, z8, z9, z10, z11, z12, f0, f1, f2, f3, f4, f5, f6, f7, f8, f9, f10, f11, f12, l⟩ := Z5
  exact bodyPost_ret (v := elV true a b c d x y r F s L 0 false) (by simp [results, Try.results24, go_sem, z0, z1, z2, z3, z4, z5, z6, z7, z8, z9, z10, z11, z12]) rfl ⟨rfl, B5⟩
set_option maxRecDepth 8000 in
set_option maxHeartbeats 16000000 in
theorem rarc_any (a b c d x y r f s : Int) (w : World) :
    Calls Try.prog 27 #[ptV a b, ptV c d, ptV x y, .int .i64 r, .int .i64 f, .int .i64 s] w fun e w' => e = .returned (elV true a b c d x y r (f % 129600000) s (alen x y r (f % 129600000) s) 0 false) ∧ Below w.heap.size w w' := by
  have HN := Lib.hid (fun w => rnorm_any f w)
  have HD := Lib.hid (fun w => ralen_any x y r (f % 129600000) s w)
  generalize f % 129600000 = F at *
  generalize alen x y r F s = L at *
  go_enter Try.func27, Try.ntmps27
  go_wp2_with fail
  have T := (((c2_new w (.int .i64 a) (.int .i64 b) 30).alc (.cells #[.int .i64 c, .int .i64 d] 30)).alc (.cells #[.int .i64 x, .int .i64 y] 30)).alc (.cells #[.bool false, .int .i64 0, .int .i64 0, .int .i64 0, .int .i64 0, .int .i64 0, .int .i64 0, .int .i64 0, .int .i64 0, .int .i64 0, .int .i64 0, .int .i64 0, .bool false] 43)
  have U := ((c2_new (w.alloc (.cells #[.int .i64 a, .int .i64 b] 30)) (.int .i64 c) (.int .i64 d) 30).alc (.cells #[.int .i64 x, .int .i64 y] 30)).alc (.cells #[.bool false, .int .i64 0, .int .i64 0, .int .i64 0, .int .i64 0, .int .i64 0, .int .i64 0, .int .i64 0, .int .i64 0, .int .i64 0, .int .i64 0, .int .i64 0, .bool false] 43)
  have V := (c2_new ((w.alloc (.cells #[.int .i64 a, .int .i64 b] 30)).alloc (.cells #[.int .i64 c, .int .i64 d] 30)) (.int .i64 x) (.int .i64 y) 30).alc (.cells #[.bool false, .int .i64 0, .int .i64 0, .int .i64 0, .int .i64 0, .int .i64 0, .int .i64 0, .int .i64 0, .int .i64 0, .int .i64 0, .int .i64 0, .int .i64 0, .bool false] 43)
  have Z := c13_new (((w.alloc (.cells #[.int .i64 a, .int .i64 b] 30)).alloc (.cells #[.int .i64 c, .int .i64 d] 30)).alloc (.cells #[.int .i64 x, .int .i64 y] 30)) (.bool false) (.int .i64 0) (.int .i64 0) (.int .i64 0) (.int .i64 0) (.int .i64 0) (.int .i64 0) (.int .i64 0) (.int .i64 0) (.int .i64 0) (.int .i64 0) (.int .i64 0) (.bool false) 43
  have B := alc (below_alloc3 w (.cells #[.int .i64 a, .int .i64 b] 30) (.cells #[.int .i64 c, .int .i64 d] 30) (.cells #[.int .i64 x, .int .i64 y] 30)) (.cells #[.bool false, .int .i64 0, .int .i64 0, .int .i64 0, .int .i64 0, .int .i64 0, .int .i64 0, .int .i64 0, .int .i64 0, .int .i64 0, .int .i64 0, .int .i64 0, .bool false] 43)
  rw [show (w.alloc (.cells #[.int .i64 a, .int .i64 b] 30)).heap.size = w.heap.size + 1 by simp] at U
  rw [show ((w.alloc (.cells #[.int .i64 a, .int .i64 b] 30)).alloc (.cells #[.int .i64 c, .int .i64 d] 30)).heap.size = w.heap.size + 1 + 1 by simp] at V
  rw [show (((w.alloc (.cells #[.int .i64 a, .int .i64 b] 30)).alloc (.cells #[.int .i64 c, .int .i64 d] 30)).alloc (.cells #[.int .i64 x, .int .i64 y] 30)).heap.size = w.heap.size + 1 + 1 + 1 by simp] at Z
  generalize ((((w.alloc (.cells #[.int .i64 a, .int .i64 b] 30)).alloc (.cells #[.int .i64 c, .int .i64 d] 30)).alloc (.cells #[.int .i64 x, .int .i64 y] 30)).alloc (.cells #[.bool false, .int .i64 0, .int .i64 0, .int .i64 0, .int .i64 0, .int .i64 0, .int .i64 0, .int .i64 0, .int .i64 0, .int .i64 0, .int .i64 0, .int .i64 0, .bool false] 43)) = w1 at T U V Z B ⊢
  have L0 : ∀ w', Below w1.heap.size w1 w' → w'.cell? ⟨w.heap.size + 1 + 1, 0, none⟩ = some (.int .i64 x) := fun _ h => (V.next h).c0
  have L1 : ∀ w', Below w1.heap.size w1 w' → w'.cell? ⟨w.heap.size + 1 + 1, 1, none⟩ = some (.int .i64 y) := fun _ h => (V.next h).c1
  have HB0 := Lib.hid B
  have HZ0 := Lib.hid Z
  have HT0 := Lib.hid T
  have HU0 := Lib.hid U
  clear B Z T U V
  go_cut [13] (fun s13 wx => ∃ bc : Nat, w1.heap.size ≤ bc ∧ s13 = .pointer (some ⟨bc, 0, none⟩) ∧ C5 wx bc (.int .i64 x) (.int .i64 y) (.int .i64 r) (.int .i64 F) (.int .i64 s) ∧ Below w1.heap.size w1 wx)
  case first =>
    go_region_held3 (fun w' => Below w1.heap.size w1 w') (first | with_reducible exact bdrew _ | with_reducible exact thn (below_alloc1 w1 _) (bdrew _) | with_reducible exact alc (bdrew _) _ | with_reducible exact below_put5 (thn (below_alloc1 w1 _) (bdrew _)) (b := w1.heap.size) (Nat.le_refl _) _ _ _ _ _ | with_reducible exact below_put5 (alc (bdrew _) _) (b := w1.heap.size) (Nat.le_refl _) _ _ _ _ _)
      (first | (go_at_call 22; refine (HN.out _).mono ?_; rintro e w' ⟨rfl, rfl⟩))
    all_goals (go_wp2_with fail; go_meet)
    all_goals exact ⟨_, Nat.le_refl _, rfl, (c5_new w1 _ _ _ _ _ _).drew, thn (below_alloc1 w1 _) (bdrew _)⟩
  case rest =>
  obtain ⟨bc, hle, rfl, Q, B2⟩ := hcut
  have B := thn HB0.out B2
  have Z := HZ0.out.next B2
  have T := HT0.out.next B2
  have U := HU0.out.next B2
  have hzc : w.heap.size + 1 + 1 + 1 ≠ bc := fun h => absurd hle (by have := HZ0.out.lt; omega)
  clear L0 L1 HB0 HZ0 HT0 HU0 B2 hle
  have t0 := T.c0
  have t1 := T.c1
  have u0 := U.c0
  have u1 := U.c1
  have q0 := Q.c0
  have q1 := Q.c1
  have q2 := Q.c2
  have q3 := Q.c3
  have q4 := Q.c4
  go_wp2
  go_region_held (fun w' => w'.cell? ⟨w.heap.size, 0, none⟩ = some (.int .i64 a) ∧ w'.cell? ⟨w.heap.size, 1, none⟩ = some (.int .i64 b) ∧ w'.cell? ⟨w.heap.size + 1, 0, none⟩ = some (.int .i64 c) ∧ w'.cell? ⟨w.heap.size + 1, 1, none⟩ = some (.int .i64 d) ∧ w'.cell? ⟨bc, 0, none⟩ = some (.int .i64 x) ∧ w'.cell? ⟨bc, 1, none⟩ = some (.int .i64 y) ∧ w'.cell? ⟨bc, 2, none⟩ = some (.int .i64 r) ∧ w'.cell? ⟨bc, 3, none⟩ = some (.int .i64 F) ∧ w'.cell? ⟨bc, 4, none⟩ = some (.int .i64 s)) (first | with_reducible exact hS4 | with_reducible exact ⟨o13 (by omega) hS4.1, o13 (by omega) hS4.2.1, o13 (by omega) hS4.2.2.1, o13 (by omega) hS4.2.2.2.1, o13 hzc hS4.2.2.2.2.1, o13 hzc hS4.2.2.2.2.2.1, o13 hzc hS4.2.2.2.2.2.2.1, o13 hzc hS4.2.2.2.2.2.2.2.1, o13 hzc hS4.2.2.2.2.2.2.2.2⟩ | go_keep)
    (first | (go_at_call 43; refine (HD.out _).mono ?_; rintro e w4 ⟨rfl, hb4⟩; have hS4 : w4.cell? ⟨w.heap.size, 0, none⟩ = some (.int .i64 a) ∧ w4.cell? ⟨w.heap.size, 1, none⟩ = some (.int .i64 b) ∧ w4.cell? ⟨w.heap.size + 1, 0, none⟩ = some (.int .i64 c) ∧ w4.cell? ⟨w.heap.size + 1, 1, none⟩ = some (.int .i64 d) ∧ w4.cell? ⟨bc, 0, none⟩ = some (.int .i64 x) ∧ w4.cell? ⟨bc, 1, none⟩ = some (.int .i64 y) ∧ w4.cell? ⟨bc, 2, none⟩ = some (.int .i64 r) ∧ w4.cell? ⟨bc, 3, none⟩ = some (.int .i64 F) ∧ w4.cell? ⟨bc, 4, none⟩ = some (.int .i64 s) := ⟨(T.drew.next hb4).c0, (T.drew.next hb4).c1, (U.drew.next hb4).c0, (U.drew.next hb4).c1, (Q.drew.next hb4).c0, (Q.drew.next hb4).c1, (Q.drew.next hb4).c2, (Q.drew.next hb4).c3, (Q.drew.next hb4).c4⟩; have Z4 := Z.drew.next hb4; have B4 := thn B.drew hb4; clear Z T U Q B hb4 t0 t1 u0 u1 q0 q1 q2 q3 q4; obtain ⟨z0, z1, z2, z3, z4, z5, z6, z7, z8, z9, z10, z11, z12, f0, f1, f2, f3, f4, f5, f6, f7, f8, f9, f10, f11, f12, l⟩ := id Z4))
  clear z0 z1 z2 z3 z4 z5 z6 z7 z8 z9 z10 z11 z12 f0 f1 f2 f3 f4 f5 f6 f7 f8 f9 f10 f11 f12 l hS4
  have Z5 := Z4.put (.bool true) (.int .i64 a) (.int .i64 b) (.int .i64 c) (.int .i64 d) (.int .i64 x) (.int .i64 y) (.int .i64 r) (.int .i64 F) (.int .i64 s) (.int .i64 L) (.int .i64 0) (.bool false)
  have B5 := below_put13 B4 (b := w.heap.size + 1 + 1 + 1) (Nat.le_succ_of_le (Nat.le_succ_of_le (Nat.le_succ _))) (.bool true) (.int .i64 a) (.int .i64 b) (.int .i64 c) (.int .i64 d) (.int .i64 x) (.int .i64 y) (.int .i64 r) (.int .i64 F) (.int .i64 s) (.int .i64 L) (.int .i64 0) (.bool false)
  clear Z4 B4
  generalize (((((((((((((w4.setCell ⟨w.heap.size + 1 + 1 + 1, 0, none⟩ (.bool true)).setCell ⟨w.heap.size + 1 + 1 + 1, 1, none⟩ (.int .i64 a)).setCell ⟨w.heap.size + 1 + 1 + 1, 2, none⟩ (.int .i64 b)).setCell ⟨w.heap.size + 1 + 1 + 1, 3, none⟩ (.int .i64 c)).setCell ⟨w.heap.size + 1 + 1 + 1, 4, none⟩ (.int .i64 d)).setCell ⟨w.heap.size + 1 + 1 + 1, 5, none⟩ (.int .i64 x)).setCell ⟨w.heap.size + 1 + 1 + 1, 6, none⟩ (.int .i64 y)).setCell ⟨w.heap.size + 1 + 1 + 1, 7, none⟩ (.int .i64 r)).setCell ⟨w.heap.size + 1 + 1 + 1, 8, none⟩ (.int .i64 F)).setCell ⟨w.heap.size + 1 + 1 + 1, 9, none⟩ (.int .i64 s)).setCell ⟨w.heap.size + 1 + 1 + 1, 10, none⟩ (.int .i64 L)).setCell ⟨w.heap.size + 1 + 1 + 1, 11, none⟩ (.int .i64 0)).setCell ⟨w.heap.size + 1 + 1 + 1, 12, none⟩ (.bool false)) = w5 at Z5 B5 ⊢
  go_wp2
  obtain ⟨z0, z1, z2, z3, z4, z5, z6, z7, z8, z9, z10, z11, z12, f0, f1, f2, f3, f4, f5, f6, f7, f8, f9, f10, f11, f12, l⟩ := Z5
  exact bodyPost_ret (v := elV true a b c d x y r F s L 0 false) (by simp [results, Try.results27, go_sem, z0, z1, z2, z3, z4, z5, z6, z7, z8, z9, z10, z11, z12]) rfl ⟨rfl, B5⟩
end Go.Proofs.Ytgabdnabcpdinaa
