/- Package sphere: the frame at a position, and the components of another position in it. -/
import Derived.Test.YtmlacekgmdlfjaaSphB
import Derived.Deep.MidRow
import Derived.StillTailTactics
namespace Go.Proofs.Ytmlacekgmdlfjaa
open Go.RowKit Go.Joins Fdk
set_option linter.unusedVariables false

abbrev frmV (a b : Int) : Value := .agg #[.int .i64 (-sn b), .int .i64 (cn b), .int .i64 0, .int .i64 (-rd (sn a * cn b)), .int .i64 (-rd (sn a * sn b)), .int .i64 (cn a), .int .i64 (rd (cn a * cn b)), .int .i64 (rd (cn a * sn b)), .int .i64 (sn a)]
theorem keep2 {a w1 w2 : World} {b : Nat} {x y : Value} (h : Below a.heap.size a w1 ∧ b < w1.heap.size ∧ w1.cell? ⟨b, 0, none⟩ = some x ∧ w1.cell? ⟨b, 1, none⟩ = some y)
    (k : Below w1.heap.size w1 w2) : Below a.heap.size a w2 ∧ b < w2.heap.size ∧ w2.cell? ⟨b, 0, none⟩ = some x ∧ w2.cell? ⟨b, 1, none⟩ = some y := by
  obtain ⟨B, l, c0, c1⟩ := h
  exact ⟨thn B k, Nat.lt_of_lt_of_le l k.size, (k.cell (p := ⟨b, 0, none⟩) l).trans c0, (k.cell (p := ⟨b, 1, none⟩) l).trans c1⟩
theorem keep2p {a w1 : World} {b c : Nat} {x y : Value} (h : Below a.heap.size a w1 ∧ b < w1.heap.size ∧ w1.cell? ⟨b, 0, none⟩ = some x ∧ w1.cell? ⟨b, 1, none⟩ = some y) (hc : a.heap.size ≤ c) (hb : c ≠ b) (y0 y1 y2 y3 y4 y5 y6 y7 y8 : Value) :
    Below a.heap.size a (((((((((w1.setCell ⟨c, 0, none⟩ y0).setCell ⟨c, 1, none⟩ y1).setCell ⟨c, 2, none⟩ y2).setCell ⟨c, 3, none⟩ y3).setCell ⟨c, 4, none⟩ y4).setCell ⟨c, 5, none⟩ y5).setCell ⟨c, 6, none⟩ y6).setCell ⟨c, 7, none⟩ y7).setCell ⟨c, 8, none⟩ y8) ∧ b < ((((((((((w1.setCell ⟨c, 0, none⟩ y0).setCell ⟨c, 1, none⟩ y1).setCell ⟨c, 2, none⟩ y2).setCell ⟨c, 3, none⟩ y3).setCell ⟨c, 4, none⟩ y4).setCell ⟨c, 5, none⟩ y5).setCell ⟨c, 6, none⟩ y6).setCell ⟨c, 7, none⟩ y7).setCell ⟨c, 8, none⟩ y8)).heap.size ∧ ((((((((((w1.setCell ⟨c, 0, none⟩ y0).setCell ⟨c, 1, none⟩ y1).setCell ⟨c, 2, none⟩ y2).setCell ⟨c, 3, none⟩ y3).setCell ⟨c, 4, none⟩ y4).setCell ⟨c, 5, none⟩ y5).setCell ⟨c, 6, none⟩ y6).setCell ⟨c, 7, none⟩ y7).setCell ⟨c, 8, none⟩ y8)).cell? ⟨b, 0, none⟩ = some x ∧ ((((((((((w1.setCell ⟨c, 0, none⟩ y0).setCell ⟨c, 1, none⟩ y1).setCell ⟨c, 2, none⟩ y2).setCell ⟨c, 3, none⟩ y3).setCell ⟨c, 4, none⟩ y4).setCell ⟨c, 5, none⟩ y5).setCell ⟨c, 6, none⟩ y6).setCell ⟨c, 7, none⟩ y7).setCell ⟨c, 8, none⟩ y8)).cell? ⟨b, 1, none⟩ = some y := by
  obtain ⟨B, l, c0, c1⟩ := h
  refine ⟨below_put9 B hc y0 y1 y2 y3 y4 y5 y6 y7 y8, by simpa using l, ?_, ?_⟩
  · repeat rw [cother (fun e => hb (congrArg Addr.block e))]
    exact c0
  · repeat rw [cother (fun e => hb (congrArg Addr.block e))]
    exact c1
set_option maxRecDepth 4000 in
set_option maxHeartbeats 3200000 in
theorem at_any (a b : Int) (w : World) :
    Calls Try.prog 49 #[posV a b] w fun e w' => e = .returned (frmV a b) ∧ Below w.heap.size w w' := by
  have ⟨p0, p1⟩ := sc_b a b
  have ⟨q0, q1⟩ := ss_b a b
  have ⟨s0, s1⟩ := sn_b b
  have ⟨r0, r1⟩ := rd_b p0 p1
  have ⟨t0, t1⟩ := rd_b q0 q1
  have e1 : IntKind.i64.wrap (sn a * cn b) = sn a * cn b := IntWalk.i64_in _ (by omega)
  have e2 : IntKind.i64.wrap (sn a * sn b) = sn a * sn b := IntWalk.i64_in _ (by omega)
  have e3 : IntKind.i64.wrap (-sn b) = -sn b := IntWalk.i64_in _ (by omega)
  have e4 : IntKind.i64.wrap (-rd (sn a * cn b)) = -rd (sn a * cn b) := IntWalk.i64_in _ (by omega)
  have e5 : IntKind.i64.wrap (-rd (sn a * sn b)) = -rd (sn a * sn b) := IntWalk.i64_in _ (by omega)
  have K1 : ∀ w, Calls Try.prog 43 #[.int .i64 (sn a * cn b)] w fun e w' => e = .returned (.int .i64 (rd (sn a * cn b))) ∧ w = w' := fun w => round_any _ _ (by omega) (by omega)
  have K2 : ∀ w, Calls Try.prog 43 #[.int .i64 (sn a * sn b)] w fun e w' => e = .returned (.int .i64 (rd (sn a * sn b))) ∧ w = w' := fun w => round_any _ _ (by omega) (by omega)
  have HK1 := Lib.hid K1
  have HK2 := Lib.hid K2
  clear K1 K2 p0 p1 q0 q1 s0 s1 r0 r1 t0 t1
  go_enter Try.func49, Try.ntmps49
  go_wp2
  have T := (c2_new w (.int .i64 a) (.int .i64 b) 23).alc (.cells #[.int .i64 0, .int .i64 0, .int .i64 0, .int .i64 0, .int .i64 0, .int .i64 0, .int .i64 0, .int .i64 0, .int .i64 0] 57)
  have Z := c9_new (w.alloc (.cells #[.int .i64 a, .int .i64 b] 23)) (.int .i64 0) (.int .i64 0) (.int .i64 0) (.int .i64 0) (.int .i64 0) (.int .i64 0) (.int .i64 0) (.int .i64 0) (.int .i64 0) 57
  have B := below_alloc2 w (.cells #[.int .i64 a, .int .i64 b] 23) (.cells #[.int .i64 0, .int .i64 0, .int .i64 0, .int .i64 0, .int .i64 0, .int .i64 0, .int .i64 0, .int .i64 0, .int .i64 0] 57)
  rw [show (w.alloc (.cells #[.int .i64 a, .int .i64 b] 23)).heap.size = w.heap.size + 1 by simp] at Z
  generalize (w.alloc (.cells #[.int .i64 a, .int .i64 b] 23)).alloc (.cells #[.int .i64 0, .int .i64 0, .int .i64 0, .int .i64 0, .int .i64 0, .int .i64 0, .int .i64 0, .int .i64 0, .int .i64 0] 57) = w1 at T Z B ⊢
  have hS : (Below w.heap.size w w1 ∧ w.heap.size < w1.heap.size ∧ w1.cell? ⟨w.heap.size, 0, none⟩ = some (.int .i64 a) ∧ w1.cell? ⟨w.heap.size, 1, none⟩ = some (.int .i64 b)) := ⟨B, T.lt, T.c0, T.c1⟩
  go_region_held (fun w' => (Below w.heap.size w w' ∧ w.heap.size < w'.heap.size ∧ w'.cell? ⟨w.heap.size, 0, none⟩ = some (.int .i64 a) ∧ w'.cell? ⟨w.heap.size, 1, none⟩ = some (.int .i64 b))) (first | with_reducible exact keep2 hS (bdrew _) | with_reducible assumption)
    (first | (go_at_call 27; refine (cos_any _ _).mono ?_; rintro e w' ⟨rfl, rfl⟩) | (go_at_call 26; refine (sin_any _ _).mono ?_; rintro e w' ⟨rfl, rfl⟩))
  clear hS
  all_goals (
    replace T := T.drew
    replace Z := Z.drew
    replace B := B.drew
    generalize w1.drew = w2 at T Z B ⊢
    go_wp2
    have hS : (Below w.heap.size w w2 ∧ w.heap.size < w2.heap.size ∧ w2.cell? ⟨w.heap.size, 0, none⟩ = some (.int .i64 a) ∧ w2.cell? ⟨w.heap.size, 1, none⟩ = some (.int .i64 b)) := ⟨B, T.lt, T.c0, T.c1⟩
    go_region_held (fun w' => (Below w.heap.size w w' ∧ w.heap.size < w'.heap.size ∧ w'.cell? ⟨w.heap.size, 0, none⟩ = some (.int .i64 a) ∧ w'.cell? ⟨w.heap.size, 1, none⟩ = some (.int .i64 b))) (first | with_reducible exact keep2 hS (bdrew _) | with_reducible assumption)
      (first | (go_at_call 27; refine (cos_any _ _).mono ?_; rintro e w' ⟨rfl, rfl⟩) | (go_at_call 26; refine (sin_any _ _).mono ?_; rintro e w' ⟨rfl, rfl⟩))
    clear hS)
  all_goals (
    replace T := T.drew
    replace Z := Z.drew
    replace B := B.drew
    generalize w2.drew = w3 at T Z B ⊢
    go_wp2
    have hS : (Below w.heap.size w w3 ∧ w.heap.size < w3.heap.size ∧ w3.cell? ⟨w.heap.size, 0, none⟩ = some (.int .i64 a) ∧ w3.cell? ⟨w.heap.size, 1, none⟩ = some (.int .i64 b)) := ⟨B, T.lt, T.c0, T.c1⟩)
  clear B T
  obtain ⟨_, _, c0, c1⟩ := id hS
  go_region_held (fun w' => w'.cell? ⟨w.heap.size, 0, none⟩ = some (.int .i64 a) ∧ w'.cell? ⟨w.heap.size, 1, none⟩ = some (.int .i64 b)) (first | with_reducible exact ⟨hS4.2.2.1, hS4.2.2.2⟩ | go_keep)
    (first | (go_at_call 43; refine (HK1.out _).mono ?_; rintro e w' ⟨rfl, rfl⟩) | (go_at_call 43; refine (HK2.out _).mono ?_; rintro e w' ⟨rfl, rfl⟩) | (go_at_call 42; refine (of_any _ _ _).mono ?_; rintro e w4 ⟨rfl, hb4⟩; have hS4 := keep2 (keep2 hS (bdrew _)) hb4; have Z4 := Z.drew.next hb4; clear HK1 HK2 e1 e2 e3 e4 e5 Z hb4; obtain ⟨z0, z1, z2, z3, z4, z5, z6, z7, z8, f0, f1, f2, f3, f4, f5, f6, f7, f8, l⟩ := id Z4))
  have Z5 := Z4.put (.int .i64 (-sn b)) (.int .i64 (cn b)) (.int .i64 0) (.int .i64 (-rd (sn a * cn b))) (.int .i64 (-rd (sn a * sn b))) (.int .i64 (cn a)) (.int .i64 (rd (cn a * cn b))) (.int .i64 (rd (cn a * sn b))) (.int .i64 (sn a))
  have B5 := below_put9 hS4.1 (b := w.heap.size + 1) (Nat.le_succ _) (.int .i64 (-sn b)) (.int .i64 (cn b)) (.int .i64 0) (.int .i64 (-rd (sn a * cn b))) (.int .i64 (-rd (sn a * sn b))) (.int .i64 (cn a)) (.int .i64 (rd (cn a * cn b))) (.int .i64 (rd (cn a * sn b))) (.int .i64 (sn a))
  clear z0 z1 z2 z3 z4 z5 z6 z7 z8 f0 f1 f2 f3 f4 f5 f6 f7 f8 l Z4 hS4
  generalize ((((((((w4.setCell ⟨w.heap.size + 1, 0, none⟩ (.int .i64 (-sn b))).setCell ⟨w.heap.size + 1, 1, none⟩ (.int .i64 (cn b))).setCell ⟨w.heap.size + 1, 2, none⟩ (.int .i64 0)).setCell ⟨w.heap.size + 1, 3, none⟩ (.int .i64 (-rd (sn a * cn b)))).setCell ⟨w.heap.size + 1, 4, none⟩ (.int .i64 (-rd (sn a * sn b)))).setCell ⟨w.heap.size + 1, 5, none⟩ (.int .i64 (cn a))).setCell ⟨w.heap.size + 1, 6, none⟩ (.int .i64 (rd (cn a * cn b)))).setCell ⟨w.heap.size + 1, 7, none⟩ (.int .i64 (rd (cn a * sn b)))).setCell ⟨w.heap.size + 1, 8, none⟩ (.int .i64 (sn a)) = w5 at Z5 B5 ⊢
  go_wp2
  obtain ⟨z0, z1, z2, z3, z4, z5, z6, z7, z8, f0, f1, f2, f3, f4, f5, f6, f7, f8, l⟩ := Z5
  exact bodyPost_ret (v := frmV a b) (by simp [results, Try.results49, go_sem, z0, z1, z2, z3, z4, z5, z6, z7, z8]) rfl ⟨rfl, B5⟩
end Go.Proofs.Ytmlacekgmdlfjaa
