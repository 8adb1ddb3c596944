/- Package sphere and its reference: the position of a vector. -/
import Derived.Test.YtmlacekgmdlfjaaSphA
import Derived.Test.YtmlacekgmdlfjaaTrigS
import Derived.LoopN
import Derived.ChangeKeysEq
namespace Go.Proofs.Ytmlacekgmdlfjaa
open Go.RowKit Go.Joins Fdk
set_option linter.unusedVariables false

@[go_sem] theorem eq3 (d : Nat) (x y z p q r : Int) (w : World) : (Op.equalIn (d + 2) 44 (.agg #[.int .i64 x, .int .i64 y, .int .i64 z]) (.agg #[.int .i64 p, .int .i64 q, .int .i64 r])).run Try.prog w = .ok (x == p && (y == q && z == r)) w := by
  have hsm : (Try.prog.info? 2).isSome = true := by kernel_rfl
  obtain ⟨i, hi⟩ := Option.isSome_iff_exists.1 hsm
  have hc : Try.prog.cellsOf 2 = 1 := by kernel_rfl
  rw [run_equalIn_array (e := 2) (n := 3) (i := i) w (d + 1) _ _ Try.underlying44 hi]
  cases h1 : (x == p) <;> cases h2 : (y == q) <;> cases h3 : (z == r) <;> simp [Op.eqItems, List.range_succ, hc, go_sem, h1, h2, h3, Try.underlying2]
def fits (y x : Int) : Bool := decide ((-2147483647 ≤ y ∧ y ≤ 2147483647) ∧ (-2147483647 ≤ x ∧ x ≤ 2147483647))
/-- what Atan2 and Hypot return, whatever they are called with. -/
def a2 (y x : Int) : Int × Int := if fits y x then (if y = 0 ∧ x = 0 then (0, 1) else (at2 y x, 0)) else (0, 2)
def hy (x y : Int) : Int × Int := if fits y x then (isq (x * x + y * y), 0) else (0, 2)
theorem a2_b (y x : Int) : 0 ≤ (a2 y x).1 ∧ (a2 y x).1 < 129600000 := by
  have := at2_b y x
  unfold a2; repeat' split
  all_goals simp only []
  all_goals omega
theorem a2_any (y x : Int) (w : World) : Calls Try.prog 45 #[.int .i64 y, .int .i64 x] w fun e w' => e = TwoInts (a2 y x).1 (a2 y x).2 ∧ Below w.heap.size w w' := by
  unfold a2
  by_cases h : (-2147483647 ≤ y ∧ y ≤ 2147483647) ∧ (-2147483647 ≤ x ∧ x ≤ 2147483647)
  · rw [if_pos (show fits y x = true from decide_eq_true h)]
    by_cases hz : y = 0 ∧ x = 0
    · obtain ⟨rfl, rfl⟩ := hz
      exact (at2_zero w).mono fun e w' ⟨he, hw⟩ => ⟨he, hw ▸ Below.refl _ _⟩
    · rw [if_neg hz]
      exact at2_any y x w h.1.1 h.1.2 h.2.1 h.2.2 hz
  · rw [if_neg (by simp only [fits, decide_eq_true_eq]; exact h)]
    exact (at2_out y x w h).mono fun e w' ⟨he, hw⟩ => ⟨he, hw ▸ Below.refl _ _⟩
theorem ra2_any (y x : Int) (w : World) : Calls Try.prog 61 #[.int .i64 y, .int .i64 x] w fun e w' => e = TwoInts (a2 y x).1 (a2 y x).2 ∧ w = w' := by
  unfold a2
  by_cases h : (-2147483647 ≤ y ∧ y ≤ 2147483647) ∧ (-2147483647 ≤ x ∧ x ≤ 2147483647)
  · rw [if_pos (show fits y x = true from decide_eq_true h)]
    by_cases hz : y = 0 ∧ x = 0
    · obtain ⟨rfl, rfl⟩ := hz
      exact rat2_zero w
    · rw [if_neg hz]
      exact rat2_any y x w h.1.1 h.1.2 h.2.1 h.2.2 hz
  · rw [if_neg (by simp only [fits, decide_eq_true_eq]; exact h)]
    exact rat2_out y x w h
theorem hy_any (x y : Int) (w : World) : Calls Try.prog 22 #[.int .i64 x, .int .i64 y] w fun e w' => e = TwoInts (hy x y).1 (hy x y).2 ∧ w = w' := by
  unfold hy
  by_cases h : (-2147483647 ≤ y ∧ y ≤ 2147483647) ∧ (-2147483647 ≤ x ∧ x ≤ 2147483647)
  · rw [if_pos (show fits y x = true from decide_eq_true h)]
    exact hyp_any x y w h.1.1 h.1.2 h.2.1 h.2.2
  · rw [if_neg (by simp only [fits, decide_eq_true_eq]; exact h)]
    exact hyp_out x y w h
theorem rhy_any (x y : Int) (w : World) : Calls Try.prog 60 #[.int .i64 x, .int .i64 y] w fun e w' => e = TwoInts (hy x y).1 (hy x y).2 ∧ w = w' := by
  unfold hy
  by_cases h : (-2147483647 ≤ y ∧ y ≤ 2147483647) ∧ (-2147483647 ≤ x ∧ x ≤ 2147483647)
  · rw [if_pos (show fits y x = true from decide_eq_true h)]
    exact rhyp_any x y w h.1.1 h.1.2 h.2.1 h.2.2
  · rw [if_neg (by simp only [fits, decide_eq_true_eq]; exact h)]
    exact rhyp_out x y w h
def big (x : Int) : Bool := decide (x > 1342177280) || decide (x < -1342177280)
abbrev Ps3 (c : Int × Int × Int) : Ending := .returned (.tuple #[posV c.1 c.2.1, .int .i64 c.2.2])
theorem ps3 {c d : Int × Int × Int} (h : c = d) : Ps3 c = Ps3 d := by rw [h]
/-- the position of a vector, and the error. -/
def posn (x y z : Int) : Int × Int × Int :=
  if (big x || (big y || big z)) || decide (x = 0 ∧ y = 0 ∧ z = 0) then (0, 0, 1) else (adiff 0 (a2 z (hy x y).1).1, adiff 0 (a2 y x).1, 0)
theorem big_cases (x : Int) : (x > 1342177280 ∧ Hid (big x = true)) ∨ ((¬ x > 1342177280) ∧ x < -1342177280 ∧ Hid (big x = true)) ∨ ((¬ x > 1342177280) ∧ (¬ x < -1342177280) ∧ Hid (big x = false)) := by
  by_cases h1 : x > 1342177280
  · exact .inl ⟨h1, Lib.hid (by simp [big, h1])⟩
  · by_cases h2 : x < -1342177280
    · exact .inr (.inl ⟨h1, h2, Lib.hid (by simp [big, h2])⟩)
    · exact .inr (.inr ⟨h1, h2, Lib.hid (by simp [big, h1, h2])⟩)
theorem zero_cases (x y z : Int) : ((x == 0) = false ∧ Hid (¬ (x = 0 ∧ y = 0 ∧ z = 0))) ∨ (x = 0 ∧ (y == 0) = false ∧ Hid (¬ (x = 0 ∧ y = 0 ∧ z = 0))) ∨ (x = 0 ∧ y = 0 ∧ (z == 0) = false ∧ Hid (¬ (x = 0 ∧ y = 0 ∧ z = 0))) ∨ (x = 0 ∧ y = 0 ∧ z = 0) := by
  by_cases h1 : x = 0
  · by_cases h2 : y = 0
    · by_cases h3 : z = 0
      · exact .inr (.inr (.inr ⟨h1, h2, h3⟩))
      · exact .inr (.inr (.inl ⟨h1, h2, by rw [beq_eq_false_iff_ne]; exact h3, Lib.hid (fun h => h3 h.2.2)⟩))
    · exact .inr (.inl ⟨h1, by rw [beq_eq_false_iff_ne]; exact h2, Lib.hid (fun h => h2 h.2.1)⟩)
  · exact .inl ⟨by rw [beq_eq_false_iff_ne]; exact h1, Lib.hid (fun h => h1 h.1)⟩

set_option maxHeartbeats 1600000 in
theorem pos_a (x y z : Int) (w : World) (hh : Hid (posn x y z = (0, 0, 1))) (b1 : x > 1342177280) :
    Calls Try.prog 30 #[vecV x y z] w fun e w' => e = Ps3 (posn x y z) ∧ Below w.heap.size w w' := by
  have i0 : ∀ w : World, (Instr.index 44 (.agg #[.int .i64 x, .int .i64 y, .int .i64 z]) (.int .i64 0)).run Try.prog w = .ok (.int .i64 x) w := fun _ => by kernel_rfl
  have i1 : ∀ w : World, (Instr.index 44 (.agg #[.int .i64 x, .int .i64 y, .int .i64 z]) (.int .i64 1)).run Try.prog w = .ok (.int .i64 y) w := fun _ => by kernel_rfl
  have i2 : ∀ w : World, (Instr.index 44 (.agg #[.int .i64 x, .int .i64 y, .int .i64 z]) (.int .i64 2)).run Try.prog w = .ok (.int .i64 z) w := fun _ => by kernel_rfl
  go_enter Try.func30, Try.ntmps30
  go_wp2
  refine wp_loop_rounds 4 ?_
  rw [rounds_succ]
  go_wp2
  exact bodyPost_ret (v := .tuple #[posV 0 0, .int .i64 1]) (by simp [results, Try.results30, go_sem, *]) rfl ⟨ps3 hh.out.symm, by go_grown⟩
set_option maxHeartbeats 1600000 in
theorem pos_b (x y z : Int) (w : World) (hh : Hid (posn x y z = (0, 0, 1))) (b0 : ¬ x > 1342177280) (b1 : x < -1342177280) :
    Calls Try.prog 30 #[vecV x y z] w fun e w' => e = Ps3 (posn x y z) ∧ Below w.heap.size w w' := by
  have i0 : ∀ w : World, (Instr.index 44 (.agg #[.int .i64 x, .int .i64 y, .int .i64 z]) (.int .i64 0)).run Try.prog w = .ok (.int .i64 x) w := fun _ => by kernel_rfl
  have i1 : ∀ w : World, (Instr.index 44 (.agg #[.int .i64 x, .int .i64 y, .int .i64 z]) (.int .i64 1)).run Try.prog w = .ok (.int .i64 y) w := fun _ => by kernel_rfl
  have i2 : ∀ w : World, (Instr.index 44 (.agg #[.int .i64 x, .int .i64 y, .int .i64 z]) (.int .i64 2)).run Try.prog w = .ok (.int .i64 z) w := fun _ => by kernel_rfl
  go_enter Try.func30, Try.ntmps30
  go_wp2
  refine wp_loop_rounds 4 ?_
  rw [rounds_succ]
  go_wp2
  exact bodyPost_ret (v := .tuple #[posV 0 0, .int .i64 1]) (by simp [results, Try.results30, go_sem, *]) rfl ⟨ps3 hh.out.symm, by go_grown⟩
set_option maxHeartbeats 1600000 in
theorem pos_c (x y z : Int) (w : World) (hh : Hid (posn x y z = (0, 0, 1))) (nx1 : ¬ x > 1342177280) (nx2 : ¬ x < -1342177280) (b1 : y > 1342177280) :
    Calls Try.prog 30 #[vecV x y z] w fun e w' => e = Ps3 (posn x y z) ∧ Below w.heap.size w w' := by
  have i0 : ∀ w : World, (Instr.index 44 (.agg #[.int .i64 x, .int .i64 y, .int .i64 z]) (.int .i64 0)).run Try.prog w = .ok (.int .i64 x) w := fun _ => by kernel_rfl
  have i1 : ∀ w : World, (Instr.index 44 (.agg #[.int .i64 x, .int .i64 y, .int .i64 z]) (.int .i64 1)).run Try.prog w = .ok (.int .i64 y) w := fun _ => by kernel_rfl
  have i2 : ∀ w : World, (Instr.index 44 (.agg #[.int .i64 x, .int .i64 y, .int .i64 z]) (.int .i64 2)).run Try.prog w = .ok (.int .i64 z) w := fun _ => by kernel_rfl
  go_enter Try.func30, Try.ntmps30
  go_wp2
  refine wp_loop_rounds 4 ?_
  rw [rounds_succ]
  go_wp2
  rw [rounds_succ]
  go_wp2
  exact bodyPost_ret (v := .tuple #[posV 0 0, .int .i64 1]) (by simp [results, Try.results30, go_sem, *]) rfl ⟨ps3 hh.out.symm, by go_grown⟩
set_option maxHeartbeats 1600000 in
theorem pos_d (x y z : Int) (w : World) (hh : Hid (posn x y z = (0, 0, 1))) (nx1 : ¬ x > 1342177280) (nx2 : ¬ x < -1342177280) (b0 : ¬ y > 1342177280) (b1 : y < -1342177280) :
    Calls Try.prog 30 #[vecV x y z] w fun e w' => e = Ps3 (posn x y z) ∧ Below w.heap.size w w' := by
  have i0 : ∀ w : World, (Instr.index 44 (.agg #[.int .i64 x, .int .i64 y, .int .i64 z]) (.int .i64 0)).run Try.prog w = .ok (.int .i64 x) w := fun _ => by kernel_rfl
  have i1 : ∀ w : World, (Instr.index 44 (.agg #[.int .i64 x, .int .i64 y, .int .i64 z]) (.int .i64 1)).run Try.prog w = .ok (.int .i64 y) w := fun _ => by kernel_rfl
  have i2 : ∀ w : World, (Instr.index 44 (.agg #[.int .i64 x, .int .i64 y, .int .i64 z]) (.int .i64 2)).run Try.prog w = .ok (.int .i64 z) w := fun _ => by kernel_rfl
  go_enter Try.func30, Try.ntmps30
  go_wp2
  refine wp_loop_rounds 4 ?_
  rw [rounds_succ]
  go_wp2
  rw [rounds_succ]
  go_wp2
  exact bodyPost_ret (v := .tuple #[posV 0 0, .int .i64 1]) (by simp [results, Try.results30, go_sem, *]) rfl ⟨ps3 hh.out.symm, by go_grown⟩
set_option maxHeartbeats 1600000 in
theorem pos_e (x y z : Int) (w : World) (hh : Hid (posn x y z = (0, 0, 1))) (nx1 : ¬ x > 1342177280) (nx2 : ¬ x < -1342177280) (ny1 : ¬ y > 1342177280) (ny2 : ¬ y < -1342177280) (b1 : z > 1342177280) :
    Calls Try.prog 30 #[vecV x y z] w fun e w' => e = Ps3 (posn x y z) ∧ Below w.heap.size w w' := by
  have i0 : ∀ w : World, (Instr.index 44 (.agg #[.int .i64 x, .int .i64 y, .int .i64 z]) (.int .i64 0)).run Try.prog w = .ok (.int .i64 x) w := fun _ => by kernel_rfl
  have i1 : ∀ w : World, (Instr.index 44 (.agg #[.int .i64 x, .int .i64 y, .int .i64 z]) (.int .i64 1)).run Try.prog w = .ok (.int .i64 y) w := fun _ => by kernel_rfl
  have i2 : ∀ w : World, (Instr.index 44 (.agg #[.int .i64 x, .int .i64 y, .int .i64 z]) (.int .i64 2)).run Try.prog w = .ok (.int .i64 z) w := fun _ => by kernel_rfl
  go_enter Try.func30, Try.ntmps30
  go_wp2
  refine wp_loop_rounds 4 ?_
  rw [rounds_succ]
  go_wp2
  rw [rounds_succ]
  go_wp2
  rw [rounds_succ]
  go_wp2
  exact bodyPost_ret (v := .tuple #[posV 0 0, .int .i64 1]) (by simp [results, Try.results30, go_sem, *]) rfl ⟨ps3 hh.out.symm, by go_grown⟩
set_option maxHeartbeats 1600000 in
theorem pos_f (x y z : Int) (w : World) (hh : Hid (posn x y z = (0, 0, 1))) (nx1 : ¬ x > 1342177280) (nx2 : ¬ x < -1342177280) (ny1 : ¬ y > 1342177280) (ny2 : ¬ y < -1342177280) (b0 : ¬ z > 1342177280) (b1 : z < -1342177280) :
    Calls Try.prog 30 #[vecV x y z] w fun e w' => e = Ps3 (posn x y z) ∧ Below w.heap.size w w' := by
  have i0 : ∀ w : World, (Instr.index 44 (.agg #[.int .i64 x, .int .i64 y, .int .i64 z]) (.int .i64 0)).run Try.prog w = .ok (.int .i64 x) w := fun _ => by kernel_rfl
  have i1 : ∀ w : World, (Instr.index 44 (.agg #[.int .i64 x, .int .i64 y, .int .i64 z]) (.int .i64 1)).run Try.prog w = .ok (.int .i64 y) w := fun _ => by kernel_rfl
  have i2 : ∀ w : World, (Instr.index 44 (.agg #[.int .i64 x, .int .i64 y, .int .i64 z]) (.int .i64 2)).run Try.prog w = .ok (.int .i64 z) w := fun _ => by kernel_rfl
  go_enter Try.func30, Try.ntmps30
  go_wp2
  refine wp_loop_rounds 4 ?_
  rw [rounds_succ]
  go_wp2
  rw [rounds_succ]
  go_wp2
  rw [rounds_succ]
  go_wp2
  exact bodyPost_ret (v := .tuple #[posV 0 0, .int .i64 1]) (by simp [results, Try.results30, go_sem, *]) rfl ⟨ps3 hh.out.symm, by go_grown⟩
set_option maxHeartbeats 1600000 in
theorem pos_z (x y z : Int) (w : World) (hh : Hid (posn x y z = (0, 0, 1))) (nx1 : ¬ x > 1342177280) (nx2 : ¬ x < -1342177280) (ny1 : ¬ y > 1342177280) (ny2 : ¬ y < -1342177280) (nz1 : ¬ z > 1342177280) (nz2 : ¬ z < -1342177280) (ex : (x == 0) = true) (ey : (y == 0) = true) (ez : (z == 0) = true) :
    Calls Try.prog 30 #[vecV x y z] w fun e w' => e = Ps3 (posn x y z) ∧ Below w.heap.size w w' := by
  have i0 : ∀ w : World, (Instr.index 44 (.agg #[.int .i64 x, .int .i64 y, .int .i64 z]) (.int .i64 0)).run Try.prog w = .ok (.int .i64 x) w := fun _ => by kernel_rfl
  have i1 : ∀ w : World, (Instr.index 44 (.agg #[.int .i64 x, .int .i64 y, .int .i64 z]) (.int .i64 1)).run Try.prog w = .ok (.int .i64 y) w := fun _ => by kernel_rfl
  have i2 : ∀ w : World, (Instr.index 44 (.agg #[.int .i64 x, .int .i64 y, .int .i64 z]) (.int .i64 2)).run Try.prog w = .ok (.int .i64 z) w := fun _ => by kernel_rfl
  go_enter Try.func30, Try.ntmps30
  go_wp2
  refine wp_loop_rounds 4 ?_
  rw [rounds_succ]
  go_wp2
  rw [rounds_succ]
  go_wp2
  rw [rounds_succ]
  go_wp2
  rw [rounds_succ]
  go_wp2
  exact bodyPost_ret (v := .tuple #[posV 0 0, .int .i64 1]) (by simp [results, Try.results30, go_sem, *]) rfl ⟨ps3 hh.out.symm, by go_grown⟩
set_option maxHeartbeats 1600000 in
theorem pos_op (x y z : Int) (w : World) (nx1 : ¬ x > 1342177280) (nx2 : ¬ x < -1342177280) (ny1 : ¬ y > 1342177280) (ny2 : ¬ y < -1342177280) (nz1 : ¬ z > 1342177280) (nz2 : ¬ z < -1342177280) (e1 : (x == 0) = false) (hh : Hid (posn x y z = (adiff 0 (a2 z (hy x y).1).1, adiff 0 (a2 y x).1, 0))) :
    Calls Try.prog 30 #[vecV x y z] w fun e w' => e = Ps3 (posn x y z) ∧ Below w.heap.size w w' := by
  have i0 : ∀ w : World, (Instr.index 44 (.agg #[.int .i64 x, .int .i64 y, .int .i64 z]) (.int .i64 0)).run Try.prog w = .ok (.int .i64 x) w := fun _ => by kernel_rfl
  have i1 : ∀ w : World, (Instr.index 44 (.agg #[.int .i64 x, .int .i64 y, .int .i64 z]) (.int .i64 1)).run Try.prog w = .ok (.int .i64 y) w := fun _ => by kernel_rfl
  have i2 : ∀ w : World, (Instr.index 44 (.agg #[.int .i64 x, .int .i64 y, .int .i64 z]) (.int .i64 2)).run Try.prog w = .ok (.int .i64 z) w := fun _ => by kernel_rfl
  go_enter Try.func30, Try.ntmps30
  go_wp2
  refine wp_loop_rounds 4 ?_
  rw [rounds_succ]
  go_wp2
  rw [rounds_succ]
  go_wp2
  rw [rounds_succ]
  go_wp2
  rw [rounds_succ]
  go_wp2_with fail
  refine (hy_any _ _ _).mono ?_
  rintro e w' ⟨rfl, rfl⟩
  generalize hy x y = H at hh ⊢
  go_wp2_with fail
  refine (a2_any _ _ _).mono ?_
  rintro e w1 ⟨rfl, hb1⟩
  have B := thn (below_alloc2 w _ _) hb1
  have T := ((c3_new w (.int .i64 x) (.int .i64 y) (.int .i64 z) 44).alc _).next hb1
  have Z := (c2_new _ (.int .i64 0) (.int .i64 0) 23).next hb1
  simp only [World.alloc, Array.size_push] at Z
  clear hb1
  generalize a2 z H.1 = U at hh ⊢
  obtain ⟨c0, c1, c2, f0, f1, f2, l0⟩ := id T
  go_wp2_with fail
  refine (a2_any _ _ _).mono ?_
  rintro e w2 ⟨rfl, hb2⟩
  replace B := thn B hb2
  replace Z := Z.next hb2
  clear hb2 T c0 c1 c2 f0 f1 f2 l0
  generalize a2 y x = V at hh ⊢
  obtain ⟨z0, z1, g0, g1, l1⟩ := id Z
  go_wp2_with (go_at_call 54; refine (signed_any _ _).mono ?_; rintro e w' ⟨rfl, rfl⟩)
  have B3 := below_put2 B (b := w.heap.size + 1) (Nat.le_succ _) (.int .i64 (adiff 0 U.1)) (.int .i64 (adiff 0 V.1))
  have Z3 := Z.put (.int .i64 (adiff 0 U.1)) (.int .i64 (adiff 0 V.1))
  exact bodyPost_ret (v := .tuple #[posV (adiff 0 U.1) (adiff 0 V.1), .int .i64 0]) (by simp [results, Try.results30, go_sem, *]) rfl ⟨ps3 hh.out.symm, by exact below_put2 B (b := w.heap.size + 1) (Nat.le_succ _) _ _⟩
set_option maxHeartbeats 1600000 in
theorem pos_oq (x y z : Int) (w : World) (nx1 : ¬ x > 1342177280) (nx2 : ¬ x < -1342177280) (ny1 : ¬ y > 1342177280) (ny2 : ¬ y < -1342177280) (nz1 : ¬ z > 1342177280) (nz2 : ¬ z < -1342177280) (e0 : (x == 0) = true) (e1 : (y == 0) = false) (hh : Hid (posn x y z = (adiff 0 (a2 z (hy x y).1).1, adiff 0 (a2 y x).1, 0))) :
    Calls Try.prog 30 #[vecV x y z] w fun e w' => e = Ps3 (posn x y z) ∧ Below w.heap.size w w' := by
  have i0 : ∀ w : World, (Instr.index 44 (.agg #[.int .i64 x, .int .i64 y, .int .i64 z]) (.int .i64 0)).run Try.prog w = .ok (.int .i64 x) w := fun _ => by kernel_rfl
  have i1 : ∀ w : World, (Instr.index 44 (.agg #[.int .i64 x, .int .i64 y, .int .i64 z]) (.int .i64 1)).run Try.prog w = .ok (.int .i64 y) w := fun _ => by kernel_rfl
  have i2 : ∀ w : World, (Instr.index 44 (.agg #[.int .i64 x, .int .i64 y, .int .i64 z]) (.int .i64 2)).run Try.prog w = .ok (.int .i64 z) w := fun _ => by kernel_rfl
  go_enter Try.func30, Try.ntmps30
  go_wp2
  refine wp_loop_rounds 4 ?_
  rw [rounds_succ]
  go_wp2
  rw [rounds_succ]
  go_wp2
  rw [rounds_succ]
  go_wp2
  rw [rounds_succ]
  go_wp2_with fail
  refine (hy_any _ _ _).mono ?_
  rintro e w' ⟨rfl, rfl⟩
  generalize hy x y = H at hh ⊢
  go_wp2_with fail
  refine (a2_any _ _ _).mono ?_
  rintro e w1 ⟨rfl, hb1⟩
  have B := thn (below_alloc2 w _ _) hb1
  have T := ((c3_new w (.int .i64 x) (.int .i64 y) (.int .i64 z) 44).alc _).next hb1
  have Z := (c2_new _ (.int .i64 0) (.int .i64 0) 23).next hb1
  simp only [World.alloc, Array.size_push] at Z
  clear hb1
  generalize a2 z H.1 = U at hh ⊢
  obtain ⟨c0, c1, c2, f0, f1, f2, l0⟩ := id T
  go_wp2_with fail
  refine (a2_any _ _ _).mono ?_
  rintro e w2 ⟨rfl, hb2⟩
  replace B := thn B hb2
  replace Z := Z.next hb2
  clear hb2 T c0 c1 c2 f0 f1 f2 l0
  generalize a2 y x = V at hh ⊢
  obtain ⟨z0, z1, g0, g1, l1⟩ := id Z
  go_wp2_with (go_at_call 54; refine (signed_any _ _).mono ?_; rintro e w' ⟨rfl, rfl⟩)
  have B3 := below_put2 B (b := w.heap.size + 1) (Nat.le_succ _) (.int .i64 (adiff 0 U.1)) (.int .i64 (adiff 0 V.1))
  have Z3 := Z.put (.int .i64 (adiff 0 U.1)) (.int .i64 (adiff 0 V.1))
  exact bodyPost_ret (v := .tuple #[posV (adiff 0 U.1) (adiff 0 V.1), .int .i64 0]) (by simp [results, Try.results30, go_sem, *]) rfl ⟨ps3 hh.out.symm, by exact below_put2 B (b := w.heap.size + 1) (Nat.le_succ _) _ _⟩
set_option maxHeartbeats 1600000 in
theorem pos_or (x y z : Int) (w : World) (nx1 : ¬ x > 1342177280) (nx2 : ¬ x < -1342177280) (ny1 : ¬ y > 1342177280) (ny2 : ¬ y < -1342177280) (nz1 : ¬ z > 1342177280) (nz2 : ¬ z < -1342177280) (e0 : (x == 0) = true) (e0b : (y == 0) = true) (e1 : (z == 0) = false) (hh : Hid (posn x y z = (adiff 0 (a2 z (hy x y).1).1, adiff 0 (a2 y x).1, 0))) :
    Calls Try.prog 30 #[vecV x y z] w fun e w' => e = Ps3 (posn x y z) ∧ Below w.heap.size w w' := by
  have i0 : ∀ w : World, (Instr.index 44 (.agg #[.int .i64 x, .int .i64 y, .int .i64 z]) (.int .i64 0)).run Try.prog w = .ok (.int .i64 x) w := fun _ => by kernel_rfl
  have i1 : ∀ w : World, (Instr.index 44 (.agg #[.int .i64 x, .int .i64 y, .int .i64 z]) (.int .i64 1)).run Try.prog w = .ok (.int .i64 y) w := fun _ => by kernel_rfl
  have i2 : ∀ w : World, (Instr.index 44 (.agg #[.int .i64 x, .int .i64 y, .int .i64 z]) (.int .i64 2)).run Try.prog w = .ok (.int .i64 z) w := fun _ => by kernel_rfl
  go_enter Try.func30, Try.ntmps30
  go_wp2
  refine wp_loop_rounds 4 ?_
  rw [rounds_succ]
  go_wp2
  rw [rounds_succ]
  go_wp2
  rw [rounds_succ]
  go_wp2
  rw [rounds_succ]
  go_wp2_with fail
  refine (hy_any _ _ _).mono ?_
  rintro e w' ⟨rfl, rfl⟩
  generalize hy x y = H at hh ⊢
  go_wp2_with fail
  refine (a2_any _ _ _).mono ?_
  rintro e w1 ⟨rfl, hb1⟩
  have B := thn (below_alloc2 w _ _) hb1
  have T := ((c3_new w (.int .i64 x) (.int .i64 y) (.int .i64 z) 44).alc _).next hb1
  have Z := (c2_new _ (.int .i64 0) (.int .i64 0) 23).next hb1
  simp only [World.alloc, Array.size_push] at Z
  clear hb1
  generalize a2 z H.1 = U at hh ⊢
  obtain ⟨c0, c1, c2, f0, f1, f2, l0⟩ := id T
  go_wp2_with fail
  refine (a2_any _ _ _).mono ?_
  rintro e w2 ⟨rfl, hb2⟩
  replace B := thn B hb2
  replace Z := Z.next hb2
  clear hb2 T c0 c1 c2 f0 f1 f2 l0
  generalize a2 y x = V at hh ⊢
  obtain ⟨z0, z1, g0, g1, l1⟩ := id Z
  go_wp2_with (go_at_call 54; refine (signed_any _ _).mono ?_; rintro e w' ⟨rfl, rfl⟩)
  have B3 := below_put2 B (b := w.heap.size + 1) (Nat.le_succ _) (.int .i64 (adiff 0 U.1)) (.int .i64 (adiff 0 V.1))
  have Z3 := Z.put (.int .i64 (adiff 0 U.1)) (.int .i64 (adiff 0 V.1))
  exact bodyPost_ret (v := .tuple #[posV (adiff 0 U.1) (adiff 0 V.1), .int .i64 0]) (by simp [results, Try.results30, go_sem, *]) rfl ⟨ps3 hh.out.symm, by exact below_put2 B (b := w.heap.size + 1) (Nat.le_succ _) _ _⟩
theorem pos_any (x y z : Int) (w : World) : Calls Try.prog 30 #[vecV x y z] w fun e w' => e = Ps3 (posn x y z) ∧ Below w.heap.size w w' := by
  have er : (big x || (big y || big z)) = true → Hid (posn x y z = (0, 0, 1)) := fun h => Lib.hid (by simp only [posn, h, Bool.true_or, if_true])
  have zr : (x = 0 ∧ y = 0 ∧ z = 0) → Hid (posn x y z = (0, 0, 1)) := fun h => Lib.hid (by unfold posn; rw [if_pos (by rw [decide_eq_true h, Bool.or_true])])
  have okr : big x = false → big y = false → big z = false → ¬ (x = 0 ∧ y = 0 ∧ z = 0) → Hid (posn x y z = (adiff 0 (a2 z (hy x y).1).1, adiff 0 (a2 y x).1, 0)) := fun h1 h2 h3 h4 => Lib.hid (by unfold posn; rw [if_neg (by simp only [h1, h2, h3, decide_eq_false h4]; decide)])
  have bz : ∀ {u : Int}, u = 0 → (u == 0) = true := fun h => by rw [beq_iff_eq]; exact h
  rcases big_cases x with ⟨b1, hx⟩ | ⟨b0, b1, hx⟩ | ⟨n1, n2, hx⟩
  ·
    exact pos_a x y z w (er (by simp [hx.out])) b1
  ·
    exact pos_b x y z w (er (by simp [hx.out])) b0 b1
  ·
    rcases big_cases y with ⟨b1, hy⟩ | ⟨b0, b1, hy⟩ | ⟨n3, n4, hy⟩
    ·
      exact pos_c x y z w (er (by simp [hy.out])) n1 n2 b1
    ·
      exact pos_d x y z w (er (by simp [hy.out])) n1 n2 b0 b1
    ·
      rcases big_cases z with ⟨b1, hz⟩ | ⟨b0, b1, hz⟩ | ⟨n5, n6, hz⟩
      ·
        exact pos_e x y z w (er (by simp [hz.out])) n1 n2 n3 n4 b1
      ·
        exact pos_f x y z w (er (by simp [hz.out])) n1 n2 n3 n4 b0 b1
      ·
        rcases zero_cases x y z with ⟨e1, nz⟩ | ⟨e0, e1, nz⟩ | ⟨e0, e0b, e1, nz⟩ | ez
        · exact pos_op x y z w n1 n2 n3 n4 n5 n6 e1 (okr hx.out hy.out hz.out nz.out)
        · exact pos_oq x y z w n1 n2 n3 n4 n5 n6 (bz e0) e1 (okr hx.out hy.out hz.out nz.out)
        · exact pos_or x y z w n1 n2 n3 n4 n5 n6 (bz e0) (bz e0b) e1 (okr hx.out hy.out hz.out nz.out)
        · exact pos_z x y z w (zr ez) n1 n2 n3 n4 n5 n6 (bz ez.1) (bz ez.2.1) (bz ez.2.2)
end Go.Proofs.Ytmlacekgmdlfjaa
