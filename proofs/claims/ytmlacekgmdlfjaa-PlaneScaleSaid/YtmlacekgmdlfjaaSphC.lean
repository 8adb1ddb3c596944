/- The reference of package sphere: the position of a vector. -/
import Derived.Test.YtmlacekgmdlfjaaSphB
namespace Go.Proofs.Ytmlacekgmdlfjaa
open Go.RowKit Go.Joins Fdk
set_option linter.unusedVariables false

set_option maxHeartbeats 1600000 in
theorem rpos_ap (x y z : Int) (w : World) (hh : Hid (posn x y z = (0, 0, 1))) (b1 : x > 1342177280) (e1 : (x == 0) = false) :
    Calls Try.prog 37 #[vecV x y z] w fun e w' => e = Ps3 (posn x y z) ∧ Below w.heap.size w w' := by
  have i0 : ∀ w : World, (Instr.index 44 (.agg #[.int .i64 x, .int .i64 y, .int .i64 z]) (.int .i64 0)).run Try.prog w = .ok (.int .i64 x) w := fun _ => by kernel_rfl
  have i1 : ∀ w : World, (Instr.index 44 (.agg #[.int .i64 x, .int .i64 y, .int .i64 z]) (.int .i64 1)).run Try.prog w = .ok (.int .i64 y) w := fun _ => by kernel_rfl
  have i2 : ∀ w : World, (Instr.index 44 (.agg #[.int .i64 x, .int .i64 y, .int .i64 z]) (.int .i64 2)).run Try.prog w = .ok (.int .i64 z) w := fun _ => by kernel_rfl
  go_enter Try.func37, Try.ntmps37
  go_wp2
  refine wp_loop_rounds 4 ?_
  rw [rounds_succ]
  go_wp2
  exact bodyPost_ret (v := .tuple #[posV 0 0, .int .i64 1]) (by simp [results, Try.results37, go_sem, *]) rfl ⟨ps3 hh.out.symm, by go_grown⟩
set_option maxHeartbeats 1600000 in
theorem rpos_aq (x y z : Int) (w : World) (hh : Hid (posn x y z = (0, 0, 1))) (b1 : x > 1342177280) (e0 : (x == 0) = true) (e1 : (y == 0) = false) :
    Calls Try.prog 37 #[vecV x y z] w fun e w' => e = Ps3 (posn x y z) ∧ Below w.heap.size w w' := by
  have i0 : ∀ w : World, (Instr.index 44 (.agg #[.int .i64 x, .int .i64 y, .int .i64 z]) (.int .i64 0)).run Try.prog w = .ok (.int .i64 x) w := fun _ => by kernel_rfl
  have i1 : ∀ w : World, (Instr.index 44 (.agg #[.int .i64 x, .int .i64 y, .int .i64 z]) (.int .i64 1)).run Try.prog w = .ok (.int .i64 y) w := fun _ => by kernel_rfl
  have i2 : ∀ w : World, (Instr.index 44 (.agg #[.int .i64 x, .int .i64 y, .int .i64 z]) (.int .i64 2)).run Try.prog w = .ok (.int .i64 z) w := fun _ => by kernel_rfl
  go_enter Try.func37, Try.ntmps37
  go_wp2
  refine wp_loop_rounds 4 ?_
  rw [rounds_succ]
  go_wp2
  exact bodyPost_ret (v := .tuple #[posV 0 0, .int .i64 1]) (by simp [results, Try.results37, go_sem, *]) rfl ⟨ps3 hh.out.symm, by go_grown⟩
set_option maxHeartbeats 1600000 in
theorem rpos_ar (x y z : Int) (w : World) (hh : Hid (posn x y z = (0, 0, 1))) (b1 : x > 1342177280) (e0 : (x == 0) = true) (e0b : (y == 0) = true) (e1 : (z == 0) = false) :
    Calls Try.prog 37 #[vecV x y z] w fun e w' => e = Ps3 (posn x y z) ∧ Below w.heap.size w w' := by
  have i0 : ∀ w : World, (Instr.index 44 (.agg #[.int .i64 x, .int .i64 y, .int .i64 z]) (.int .i64 0)).run Try.prog w = .ok (.int .i64 x) w := fun _ => by kernel_rfl
  have i1 : ∀ w : World, (Instr.index 44 (.agg #[.int .i64 x, .int .i64 y, .int .i64 z]) (.int .i64 1)).run Try.prog w = .ok (.int .i64 y) w := fun _ => by kernel_rfl
  have i2 : ∀ w : World, (Instr.index 44 (.agg #[.int .i64 x, .int .i64 y, .int .i64 z]) (.int .i64 2)).run Try.prog w = .ok (.int .i64 z) w := fun _ => by kernel_rfl
  go_enter Try.func37, Try.ntmps37
  go_wp2
  refine wp_loop_rounds 4 ?_
  rw [rounds_succ]
  go_wp2
  exact bodyPost_ret (v := .tuple #[posV 0 0, .int .i64 1]) (by simp [results, Try.results37, go_sem, *]) rfl ⟨ps3 hh.out.symm, by go_grown⟩
set_option maxHeartbeats 1600000 in
theorem rpos_bp (x y z : Int) (w : World) (hh : Hid (posn x y z = (0, 0, 1))) (b0 : ¬ x > 1342177280) (b1 : x < -1342177280) (e1 : (x == 0) = false) :
    Calls Try.prog 37 #[vecV x y z] w fun e w' => e = Ps3 (posn x y z) ∧ Below w.heap.size w w' := by
  have i0 : ∀ w : World, (Instr.index 44 (.agg #[.int .i64 x, .int .i64 y, .int .i64 z]) (.int .i64 0)).run Try.prog w = .ok (.int .i64 x) w := fun _ => by kernel_rfl
  have i1 : ∀ w : World, (Instr.index 44 (.agg #[.int .i64 x, .int .i64 y, .int .i64 z]) (.int .i64 1)).run Try.prog w = .ok (.int .i64 y) w := fun _ => by kernel_rfl
  have i2 : ∀ w : World, (Instr.index 44 (.agg #[.int .i64 x, .int .i64 y, .int .i64 z]) (.int .i64 2)).run Try.prog w = .ok (.int .i64 z) w := fun _ => by kernel_rfl
  go_enter Try.func37, Try.ntmps37
  go_wp2
  refine wp_loop_rounds 4 ?_
  rw [rounds_succ]
  go_wp2
  exact bodyPost_ret (v := .tuple #[posV 0 0, .int .i64 1]) (by simp [results, Try.results37, go_sem, *]) rfl ⟨ps3 hh.out.symm, by go_grown⟩
set_option maxHeartbeats 1600000 in
theorem rpos_bq (x y z : Int) (w : World) (hh : Hid (posn x y z = (0, 0, 1))) (b0 : ¬ x > 1342177280) (b1 : x < -1342177280) (e0 : (x == 0) = true) (e1 : (y == 0) = false) :
    Calls Try.prog 37 #[vecV x y z] w fun e w' => e = Ps3 (posn x y z) ∧ Below w.heap.size w w' := by
  have i0 : ∀ w : World, (Instr.index 44 (.agg #[.int .i64 x, .int .i64 y, .int .i64 z]) (.int .i64 0)).run Try.prog w = .ok (.int .i64 x) w := fun _ => by kernel_rfl
  have i1 : ∀ w : World, (Instr.index 44 (.agg #[.int .i64 x, .int .i64 y, .int .i64 z]) (.int .i64 1)).run Try.prog w = .ok (.int .i64 y) w := fun _ => by kernel_rfl
  have i2 : ∀ w : World, (Instr.index 44 (.agg #[.int .i64 x, .int .i64 y, .int .i64 z]) (.int .i64 2)).run Try.prog w = .ok (.int .i64 z) w := fun _ => by kernel_rfl
  go_enter Try.func37, Try.ntmps37
  go_wp2
  refine wp_loop_rounds 4 ?_
  rw [rounds_succ]
  go_wp2
  exact bodyPost_ret (v := .tuple #[posV 0 0, .int .i64 1]) (by simp [results, Try.results37, go_sem, *]) rfl ⟨ps3 hh.out.symm, by go_grown⟩
set_option maxHeartbeats 1600000 in
theorem rpos_br (x y z : Int) (w : World) (hh : Hid (posn x y z = (0, 0, 1))) (b0 : ¬ x > 1342177280) (b1 : x < -1342177280) (e0 : (x == 0) = true) (e0b : (y == 0) = true) (e1 : (z == 0) = false) :
    Calls Try.prog 37 #[vecV x y z] w fun e w' => e = Ps3 (posn x y z) ∧ Below w.heap.size w w' := by
  have i0 : ∀ w : World, (Instr.index 44 (.agg #[.int .i64 x, .int .i64 y, .int .i64 z]) (.int .i64 0)).run Try.prog w = .ok (.int .i64 x) w := fun _ => by kernel_rfl
  have i1 : ∀ w : World, (Instr.index 44 (.agg #[.int .i64 x, .int .i64 y, .int .i64 z]) (.int .i64 1)).run Try.prog w = .ok (.int .i64 y) w := fun _ => by kernel_rfl
  have i2 : ∀ w : World, (Instr.index 44 (.agg #[.int .i64 x, .int .i64 y, .int .i64 z]) (.int .i64 2)).run Try.prog w = .ok (.int .i64 z) w := fun _ => by kernel_rfl
  go_enter Try.func37, Try.ntmps37
  go_wp2
  refine wp_loop_rounds 4 ?_
  rw [rounds_succ]
  go_wp2
  exact bodyPost_ret (v := .tuple #[posV 0 0, .int .i64 1]) (by simp [results, Try.results37, go_sem, *]) rfl ⟨ps3 hh.out.symm, by go_grown⟩
set_option maxHeartbeats 1600000 in
theorem rpos_cp (x y z : Int) (w : World) (hh : Hid (posn x y z = (0, 0, 1))) (nx1 : ¬ x > 1342177280) (nx2 : ¬ x < -1342177280) (b1 : y > 1342177280) (e1 : (x == 0) = false) :
    Calls Try.prog 37 #[vecV x y z] w fun e w' => e = Ps3 (posn x y z) ∧ Below w.heap.size w w' := by
  have i0 : ∀ w : World, (Instr.index 44 (.agg #[.int .i64 x, .int .i64 y, .int .i64 z]) (.int .i64 0)).run Try.prog w = .ok (.int .i64 x) w := fun _ => by kernel_rfl
  have i1 : ∀ w : World, (Instr.index 44 (.agg #[.int .i64 x, .int .i64 y, .int .i64 z]) (.int .i64 1)).run Try.prog w = .ok (.int .i64 y) w := fun _ => by kernel_rfl
  have i2 : ∀ w : World, (Instr.index 44 (.agg #[.int .i64 x, .int .i64 y, .int .i64 z]) (.int .i64 2)).run Try.prog w = .ok (.int .i64 z) w := fun _ => by kernel_rfl
  go_enter Try.func37, Try.ntmps37
  go_wp2
  refine wp_loop_rounds 4 ?_
  rw [rounds_succ]
  go_wp2
  rw [rounds_succ]
  go_wp2
  exact bodyPost_ret (v := .tuple #[posV 0 0, .int .i64 1]) (by simp [results, Try.results37, go_sem, *]) rfl ⟨ps3 hh.out.symm, by go_grown⟩
set_option maxHeartbeats 1600000 in
theorem rpos_cq (x y z : Int) (w : World) (hh : Hid (posn x y z = (0, 0, 1))) (nx1 : ¬ x > 1342177280) (nx2 : ¬ x < -1342177280) (b1 : y > 1342177280) (e0 : (x == 0) = true) (e1 : (y == 0) = false) :
    Calls Try.prog 37 #[vecV x y z] w fun e w' => e = Ps3 (posn x y z) ∧ Below w.heap.size w w' := by
  have i0 : ∀ w : World, (Instr.index 44 (.agg #[.int .i64 x, .int .i64 y, .int .i64 z]) (.int .i64 0)).run Try.prog w = .ok (.int .i64 x) w := fun _ => by kernel_rfl
  have i1 : ∀ w : World, (Instr.index 44 (.agg #[.int .i64 x, .int .i64 y, .int .i64 z]) (.int .i64 1)).run Try.prog w = .ok (.int .i64 y) w := fun _ => by kernel_rfl
  have i2 : ∀ w : World, (Instr.index 44 (.agg #[.int .i64 x, .int .i64 y, .int .i64 z]) (.int .i64 2)).run Try.prog w = .ok (.int .i64 z) w := fun _ => by kernel_rfl
  go_enter Try.func37, Try.ntmps37
  go_wp2
  refine wp_loop_rounds 4 ?_
  rw [rounds_succ]
  go_wp2
  rw [rounds_succ]
  go_wp2
  exact bodyPost_ret (v := .tuple #[posV 0 0, .int .i64 1]) (by simp [results, Try.results37, go_sem, *]) rfl ⟨ps3 hh.out.symm, by go_grown⟩
set_option maxHeartbeats 1600000 in
theorem rpos_cr (x y z : Int) (w : World) (hh : Hid (posn x y z = (0, 0, 1))) (nx1 : ¬ x > 1342177280) (nx2 : ¬ x < -1342177280) (b1 : y > 1342177280) (e0 : (x == 0) = true) (e0b : (y == 0) = true) (e1 : (z == 0) = false) :
    Calls Try.prog 37 #[vecV x y z] w fun e w' => e = Ps3 (posn x y z) ∧ Below w.heap.size w w' := by
  have i0 : ∀ w : World, (Instr.index 44 (.agg #[.int .i64 x, .int .i64 y, .int .i64 z]) (.int .i64 0)).run Try.prog w = .ok (.int .i64 x) w := fun _ => by kernel_rfl
  have i1 : ∀ w : World, (Instr.index 44 (.agg #[.int .i64 x, .int .i64 y, .int .i64 z]) (.int .i64 1)).run Try.prog w = .ok (.int .i64 y) w := fun _ => by kernel_rfl
  have i2 : ∀ w : World, (Instr.index 44 (.agg #[.int .i64 x, .int .i64 y, .int .i64 z]) (.int .i64 2)).run Try.prog w = .ok (.int .i64 z) w := fun _ => by kernel_rfl
  go_enter Try.func37, Try.ntmps37
  go_wp2
  refine wp_loop_rounds 4 ?_
  rw [rounds_succ]
  go_wp2
  rw [rounds_succ]
  go_wp2
  exact bodyPost_ret (v := .tuple #[posV 0 0, .int .i64 1]) (by simp [results, Try.results37, go_sem, *]) rfl ⟨ps3 hh.out.symm, by go_grown⟩
set_option maxHeartbeats 1600000 in
theorem rpos_dp (x y z : Int) (w : World) (hh : Hid (posn x y z = (0, 0, 1))) (nx1 : ¬ x > 1342177280) (nx2 : ¬ x < -1342177280) (b0 : ¬ y > 1342177280) (b1 : y < -1342177280) (e1 : (x == 0) = false) :
    Calls Try.prog 37 #[vecV x y z] w fun e w' => e = Ps3 (posn x y z) ∧ Below w.heap.size w w' := by
  have i0 : ∀ w : World, (Instr.index 44 (.agg #[.int .i64 x, .int .i64 y, .int .i64 z]) (.int .i64 0)).run Try.prog w = .ok (.int .i64 x) w := fun _ => by kernel_rfl
  have i1 : ∀ w : World, (Instr.index 44 (.agg #[.int .i64 x, .int .i64 y, .int .i64 z]) (.int .i64 1)).run Try.prog w = .ok (.int .i64 y) w := fun _ => by kernel_rfl
  have i2 : ∀ w : World, (Instr.index 44 (.agg #[.int .i64 x, .int .i64 y, .int .i64 z]) (.int .i64 2)).run Try.prog w = .ok (.int .i64 z) w := fun _ => by kernel_rfl
  go_enter Try.func37, Try.ntmps37
  go_wp2
  refine wp_loop_rounds 4 ?_
  rw [rounds_succ]
  go_wp2
  rw [rounds_succ]
  go_wp2
  exact bodyPost_ret (v := .tuple #[posV 0 0, .int .i64 1]) (by simp [results, Try.results37, go_sem, *]) rfl ⟨ps3 hh.out.symm, by go_grown⟩
set_option maxHeartbeats 1600000 in
theorem rpos_dq (x y z : Int) (w : World) (hh : Hid (posn x y z = (0, 0, 1))) (nx1 : ¬ x > 1342177280) (nx2 : ¬ x < -1342177280) (b0 : ¬ y > 1342177280) (b1 : y < -1342177280) (e0 : (x == 0) = true) (e1 : (y == 0) = false) :
    Calls Try.prog 37 #[vecV x y z] w fun e w' => e = Ps3 (posn x y z) ∧ Below w.heap.size w w' := by
  have i0 : ∀ w : World, (Instr.index 44 (.agg #[.int .i64 x, .int .i64 y, .int .i64 z]) (.int .i64 0)).run Try.prog w = .ok (.int .i64 x) w := fun _ => by kernel_rfl
  have i1 : ∀ w : World, (Instr.index 44 (.agg #[.int .i64 x, .int .i64 y, .int .i64 z]) (.int .i64 1)).run Try.prog w = .ok (.int .i64 y) w := fun _ => by kernel_rfl
  have i2 : ∀ w : World, (Instr.index 44 (.agg #[.int .i64 x, .int .i64 y, .int .i64 z]) (.int .i64 2)).run Try.prog w = .ok (.int .i64 z) w := fun _ => by kernel_rfl
  go_enter Try.func37, Try.ntmps37
  go_wp2
  refine wp_loop_rounds 4 ?_
  rw [rounds_succ]
  go_wp2
  rw [rounds_succ]
  go_wp2
  exact bodyPost_ret (v := .tuple #[posV 0 0, .int .i64 1]) (by simp [results, Try.results37, go_sem, *]) rfl ⟨ps3 hh.out.symm, by go_grown⟩
set_option maxHeartbeats 1600000 in
theorem rpos_dr (x y z : Int) (w : World) (hh : Hid (posn x y z = (0, 0, 1))) (nx1 : ¬ x > 1342177280) (nx2 : ¬ x < -1342177280) (b0 : ¬ y > 1342177280) (b1 : y < -1342177280) (e0 : (x == 0) = true) (e0b : (y == 0) = true) (e1 : (z == 0) = false) :
    Calls Try.prog 37 #[vecV x y z] w fun e w' => e = Ps3 (posn x y z) ∧ Below w.heap.size w w' := by
  have i0 : ∀ w : World, (Instr.index 44 (.agg #[.int .i64 x, .int .i64 y, .int .i64 z]) (.int .i64 0)).run Try.prog w = .ok (.int .i64 x) w := fun _ => by kernel_rfl
  have i1 : ∀ w : World, (Instr.index 44 (.agg #[.int .i64 x, .int .i64 y, .int .i64 z]) (.int .i64 1)).run Try.prog w = .ok (.int .i64 y) w := fun _ => by kernel_rfl
  have i2 : ∀ w : World, (Instr.index 44 (.agg #[.int .i64 x, .int .i64 y, .int .i64 z]) (.int .i64 2)).run Try.prog w = .ok (.int .i64 z) w := fun _ => by kernel_rfl
  go_enter Try.func37, Try.ntmps37
  go_wp2
  refine wp_loop_rounds 4 ?_
  rw [rounds_succ]
  go_wp2
  rw [rounds_succ]
  go_wp2
  exact bodyPost_ret (v := .tuple #[posV 0 0, .int .i64 1]) (by simp [results, Try.results37, go_sem, *]) rfl ⟨ps3 hh.out.symm, by go_grown⟩
set_option maxHeartbeats 1600000 in
theorem rpos_ep (x y z : Int) (w : World) (hh : Hid (posn x y z = (0, 0, 1))) (nx1 : ¬ x > 1342177280) (nx2 : ¬ x < -1342177280) (ny1 : ¬ y > 1342177280) (ny2 : ¬ y < -1342177280) (b1 : z > 1342177280) (e1 : (x == 0) = false) :
    Calls Try.prog 37 #[vecV x y z] w fun e w' => e = Ps3 (posn x y z) ∧ Below w.heap.size w w' := by
  have i0 : ∀ w : World, (Instr.index 44 (.agg #[.int .i64 x, .int .i64 y, .int .i64 z]) (.int .i64 0)).run Try.prog w = .ok (.int .i64 x) w := fun _ => by kernel_rfl
  have i1 : ∀ w : World, (Instr.index 44 (.agg #[.int .i64 x, .int .i64 y, .int .i64 z]) (.int .i64 1)).run Try.prog w = .ok (.int .i64 y) w := fun _ => by kernel_rfl
  have i2 : ∀ w : World, (Instr.index 44 (.agg #[.int .i64 x, .int .i64 y, .int .i64 z]) (.int .i64 2)).run Try.prog w = .ok (.int .i64 z) w := fun _ => by kernel_rfl
  go_enter Try.func37, Try.ntmps37
  go_wp2
  refine wp_loop_rounds 4 ?_
  rw [rounds_succ]
  go_wp2
  rw [rounds_succ]
  go_wp2
  rw [rounds_succ]
  go_wp2
  exact bodyPost_ret (v := .tuple #[posV 0 0, .int .i64 1]) (by simp [results, Try.results37, go_sem, *]) rfl ⟨ps3 hh.out.symm, by go_grown⟩
set_option maxHeartbeats 1600000 in
theorem rpos_eq (x y z : Int) (w : World) (hh : Hid (posn x y z = (0, 0, 1))) (nx1 : ¬ x > 1342177280) (nx2 : ¬ x < -1342177280) (ny1 : ¬ y > 1342177280) (ny2 : ¬ y < -1342177280) (b1 : z > 1342177280) (e0 : (x == 0) = true) (e1 : (y == 0) = false) :
    Calls Try.prog 37 #[vecV x y z] w fun e w' => e = Ps3 (posn x y z) ∧ Below w.heap.size w w' := by
  have i0 : ∀ w : World, (Instr.index 44 (.agg #[.int .i64 x, .int .i64 y, .int .i64 z]) (.int .i64 0)).run Try.prog w = .ok (.int .i64 x) w := fun _ => by kernel_rfl
  have i1 : ∀ w : World, (Instr.index 44 (.agg #[.int .i64 x, .int .i64 y, .int .i64 z]) (.int .i64 1)).run Try.prog w = .ok (.int .i64 y) w := fun _ => by kernel_rfl
  have i2 : ∀ w : World, (Instr.index 44 (.agg #[.int .i64 x, .int .i64 y, .int .i64 z]) (.int .i64 2)).run Try.prog w = .ok (.int .i64 z) w := fun _ => by kernel_rfl
  go_enter Try.func37, Try.ntmps37
  go_wp2
  refine wp_loop_rounds 4 ?_
  rw [rounds_succ]
  go_wp2
  rw [rounds_succ]
  go_wp2
  rw [rounds_succ]
  go_wp2
  exact bodyPost_ret (v := .tuple #[posV 0 0, .int .i64 1]) (by simp [results, Try.results37, go_sem, *]) rfl ⟨ps3 hh.out.symm, by go_grown⟩
set_option maxHeartbeats 1600000 in
theorem rpos_er (x y z : Int) (w : World) (hh : Hid (posn x y z = (0, 0, 1))) (nx1 : ¬ x > 1342177280) (nx2 : ¬ x < -1342177280) (ny1 : ¬ y > 1342177280) (ny2 : ¬ y < -1342177280) (b1 : z > 1342177280) (e0 : (x == 0) = true) (e0b : (y == 0) = true) (e1 : (z == 0) = false) :
    Calls Try.prog 37 #[vecV x y z] w fun e w' => e = Ps3 (posn x y z) ∧ Below w.heap.size w w' := by
  have i0 : ∀ w : World, (Instr.index 44 (.agg #[.int .i64 x, .int .i64 y, .int .i64 z]) (.int .i64 0)).run Try.prog w = .ok (.int .i64 x) w := fun _ => by kernel_rfl
  have i1 : ∀ w : World, (Instr.index 44 (.agg #[.int .i64 x, .int .i64 y, .int .i64 z]) (.int .i64 1)).run Try.prog w = .ok (.int .i64 y) w := fun _ => by kernel_rfl
  have i2 : ∀ w : World, (Instr.index 44 (.agg #[.int .i64 x, .int .i64 y, .int .i64 z]) (.int .i64 2)).run Try.prog w = .ok (.int .i64 z) w := fun _ => by kernel_rfl
  go_enter Try.func37, Try.ntmps37
  go_wp2
  refine wp_loop_rounds 4 ?_
  rw [rounds_succ]
  go_wp2
  rw [rounds_succ]
  go_wp2
  rw [rounds_succ]
  go_wp2
  exact bodyPost_ret (v := .tuple #[posV 0 0, .int .i64 1]) (by simp [results, Try.results37, go_sem, *]) rfl ⟨ps3 hh.out.symm, by go_grown⟩
set_option maxHeartbeats 1600000 in
theorem rpos_fp (x y z : Int) (w : World) (hh : Hid (posn x y z = (0, 0, 1))) (nx1 : ¬ x > 1342177280) (nx2 : ¬ x < -1342177280) (ny1 : ¬ y > 1342177280) (ny2 : ¬ y < -1342177280) (b0 : ¬ z > 1342177280) (b1 : z < -1342177280) (e1 : (x == 0) = false) :
    Calls Try.prog 37 #[vecV x y z] w fun e w' => e = Ps3 (posn x y z) ∧ Below w.heap.size w w' := by
  have i0 : ∀ w : World, (Instr.index 44 (.agg #[.int .i64 x, .int .i64 y, .int .i64 z]) (.int .i64 0)).run Try.prog w = .ok (.int .i64 x) w := fun _ => by kernel_rfl
  have i1 : ∀ w : World, (Instr.index 44 (.agg #[.int .i64 x, .int .i64 y, .int .i64 z]) (.int .i64 1)).run Try.prog w = .ok (.int .i64 y) w := fun _ => by kernel_rfl
  have i2 : ∀ w : World, (Instr.index 44 (.agg #[.int .i64 x, .int .i64 y, .int .i64 z]) (.int .i64 2)).run Try.prog w = .ok (.int .i64 z) w := fun _ => by kernel_rfl
  go_enter Try.func37, Try.ntmps37
  go_wp2
  refine wp_loop_rounds 4 ?_
  rw [rounds_succ]
  go_wp2
  rw [rounds_succ]
  go_wp2
  rw [rounds_succ]
  go_wp2
  exact bodyPost_ret (v := .tuple #[posV 0 0, .int .i64 1]) (by simp [results, Try.results37, go_sem, *]) rfl ⟨ps3 hh.out.symm, by go_grown⟩
set_option maxHeartbeats 1600000 in
theorem rpos_fq (x y z : Int) (w : World) (hh : Hid (posn x y z = (0, 0, 1))) (nx1 : ¬ x > 1342177280) (nx2 : ¬ x < -1342177280) (ny1 : ¬ y > 1342177280) (ny2 : ¬ y < -1342177280) (b0 : ¬ z > 1342177280) (b1 : z < -1342177280) (e0 : (x == 0) = true) (e1 : (y == 0) = false) :
    Calls Try.prog 37 #[vecV x y z] w fun e w' => e = Ps3 (posn x y z) ∧ Below w.heap.size w w' := by
  have i0 : ∀ w : World, (Instr.index 44 (.agg #[.int .i64 x, .int .i64 y, .int .i64 z]) (.int .i64 0)).run Try.prog w = .ok (.int .i64 x) w := fun _ => by kernel_rfl
  have i1 : ∀ w : World, (Instr.index 44 (.agg #[.int .i64 x, .int .i64 y, .int .i64 z]) (.int .i64 1)).run Try.prog w = .ok (.int .i64 y) w := fun _ => by kernel_rfl
  have i2 : ∀ w : World, (Instr.index 44 (.agg #[.int .i64 x, .int .i64 y, .int .i64 z]) (.int .i64 2)).run Try.prog w = .ok (.int .i64 z) w := fun _ => by kernel_rfl
  go_enter Try.func37, Try.ntmps37
  go_wp2
  refine wp_loop_rounds 4 ?_
  rw [rounds_succ]
  go_wp2
  rw [rounds_succ]
  go_wp2
  rw [rounds_succ]
  go_wp2
  exact bodyPost_ret (v := .tuple #[posV 0 0, .int .i64 1]) (by simp [results, Try.results37, go_sem, *]) rfl ⟨ps3 hh.out.symm, by go_grown⟩
set_option maxHeartbeats 1600000 in
theorem rpos_fr (x y z : Int) (w : World) (hh : Hid (posn x y z = (0, 0, 1))) (nx1 : ¬ x > 1342177280) (nx2 : ¬ x < -1342177280) (ny1 : ¬ y > 1342177280) (ny2 : ¬ y < -1342177280) (b0 : ¬ z > 1342177280) (b1 : z < -1342177280) (e0 : (x == 0) = true) (e0b : (y == 0) = true) (e1 : (z == 0) = false) :
    Calls Try.prog 37 #[vecV x y z] w fun e w' => e = Ps3 (posn x y z) ∧ Below w.heap.size w w' := by
  have i0 : ∀ w : World, (Instr.index 44 (.agg #[.int .i64 x, .int .i64 y, .int .i64 z]) (.int .i64 0)).run Try.prog w = .ok (.int .i64 x) w := fun _ => by kernel_rfl
  have i1 : ∀ w : World, (Instr.index 44 (.agg #[.int .i64 x, .int .i64 y, .int .i64 z]) (.int .i64 1)).run Try.prog w = .ok (.int .i64 y) w := fun _ => by kernel_rfl
  have i2 : ∀ w : World, (Instr.index 44 (.agg #[.int .i64 x, .int .i64 y, .int .i64 z]) (.int .i64 2)).run Try.prog w = .ok (.int .i64 z) w := fun _ => by kernel_rfl
  go_enter Try.func37, Try.ntmps37
  go_wp2
  refine wp_loop_rounds 4 ?_
  rw [rounds_succ]
  go_wp2
  rw [rounds_succ]
  go_wp2
  rw [rounds_succ]
  go_wp2
  exact bodyPost_ret (v := .tuple #[posV 0 0, .int .i64 1]) (by simp [results, Try.results37, go_sem, *]) rfl ⟨ps3 hh.out.symm, by go_grown⟩
set_option maxHeartbeats 1600000 in
theorem rpos_z (x y z : Int) (w : World) (hh : Hid (posn x y z = (0, 0, 1))) (nx1 : ¬ x > 1342177280) (nx2 : ¬ x < -1342177280) (ny1 : ¬ y > 1342177280) (ny2 : ¬ y < -1342177280) (nz1 : ¬ z > 1342177280) (nz2 : ¬ z < -1342177280) (ex : (x == 0) = true) (ey : (y == 0) = true) (ez : (z == 0) = true) :
    Calls Try.prog 37 #[vecV x y z] w fun e w' => e = Ps3 (posn x y z) ∧ Below w.heap.size w w' := by
  have i0 : ∀ w : World, (Instr.index 44 (.agg #[.int .i64 x, .int .i64 y, .int .i64 z]) (.int .i64 0)).run Try.prog w = .ok (.int .i64 x) w := fun _ => by kernel_rfl
  have i1 : ∀ w : World, (Instr.index 44 (.agg #[.int .i64 x, .int .i64 y, .int .i64 z]) (.int .i64 1)).run Try.prog w = .ok (.int .i64 y) w := fun _ => by kernel_rfl
  have i2 : ∀ w : World, (Instr.index 44 (.agg #[.int .i64 x, .int .i64 y, .int .i64 z]) (.int .i64 2)).run Try.prog w = .ok (.int .i64 z) w := fun _ => by kernel_rfl
  go_enter Try.func37, Try.ntmps37
  go_wp2
  exact bodyPost_ret (v := .tuple #[posV 0 0, .int .i64 1]) (by simp [results, Try.results37, go_sem, *]) rfl ⟨ps3 hh.out.symm, by go_grown⟩
set_option maxHeartbeats 1600000 in
theorem rpos_op (x y z : Int) (w : World) (nx1 : ¬ x > 1342177280) (nx2 : ¬ x < -1342177280) (ny1 : ¬ y > 1342177280) (ny2 : ¬ y < -1342177280) (nz1 : ¬ z > 1342177280) (nz2 : ¬ z < -1342177280) (e1 : (x == 0) = false) (hh : Hid (posn x y z = (adiff 0 (a2 z (hy x y).1).1, adiff 0 (a2 y x).1, 0))) :
    Calls Try.prog 37 #[vecV x y z] w fun e w' => e = Ps3 (posn x y z) ∧ Below w.heap.size w w' := by
  have i0 : ∀ w : World, (Instr.index 44 (.agg #[.int .i64 x, .int .i64 y, .int .i64 z]) (.int .i64 0)).run Try.prog w = .ok (.int .i64 x) w := fun _ => by kernel_rfl
  have i1 : ∀ w : World, (Instr.index 44 (.agg #[.int .i64 x, .int .i64 y, .int .i64 z]) (.int .i64 1)).run Try.prog w = .ok (.int .i64 y) w := fun _ => by kernel_rfl
  have i2 : ∀ w : World, (Instr.index 44 (.agg #[.int .i64 x, .int .i64 y, .int .i64 z]) (.int .i64 2)).run Try.prog w = .ok (.int .i64 z) w := fun _ => by kernel_rfl
  go_enter Try.func37, Try.ntmps37
  go_wp2
  refine wp_loop_rounds 4 ?_
  rw [rounds_succ]
  go_wp2
  rw [rounds_succ]
  go_wp2
  rw [rounds_succ]
  go_wp2
  rw [rounds_succ]
  go_wp2_with fail
  refine (rhy_any _ _ _).mono ?_
  rintro e w' ⟨rfl, rfl⟩
  generalize hy x y = H at hh ⊢
  go_wp2_with fail
  refine (ra2_any _ _ _).mono ?_
  rintro e w' ⟨rfl, rfl⟩
  generalize a2 z H.1 = U at hh ⊢
  go_wp2_with fail
  refine (ra2_any _ _ _).mono ?_
  rintro e w' ⟨rfl, rfl⟩
  generalize a2 y x = V at hh ⊢
  go_wp2_with (go_at_call 62; refine (rsigned_any _ _).mono ?_; rintro e w' ⟨rfl, rfl⟩)
  exact bodyPost_ret (v := .tuple #[posV (adiff 0 U.1) (adiff 0 V.1), .int .i64 0]) (by simp [results, Try.results37, go_sem, *]) rfl ⟨ps3 hh.out.symm, by go_grown⟩
set_option maxHeartbeats 1600000 in
theorem rpos_oq (x y z : Int) (w : World) (nx1 : ¬ x > 1342177280) (nx2 : ¬ x < -1342177280) (ny1 : ¬ y > 1342177280) (ny2 : ¬ y < -1342177280) (nz1 : ¬ z > 1342177280) (nz2 : ¬ z < -1342177280) (e0 : (x == 0) = true) (e1 : (y == 0) = false) (hh : Hid (posn x y z = (adiff 0 (a2 z (hy x y).1).1, adiff 0 (a2 y x).1, 0))) :
    Calls Try.prog 37 #[vecV x y z] w fun e w' => e = Ps3 (posn x y z) ∧ Below w.heap.size w w' := by
  have i0 : ∀ w : World, (Instr.index 44 (.agg #[.int .i64 x, .int .i64 y, .int .i64 z]) (.int .i64 0)).run Try.prog w = .ok (.int .i64 x) w := fun _ => by kernel_rfl
  have i1 : ∀ w : World, (Instr.index 44 (.agg #[.int .i64 x, .int .i64 y, .int .i64 z]) (.int .i64 1)).run Try.prog w = .ok (.int .i64 y) w := fun _ => by kernel_rfl
  have i2 : ∀ w : World, (Instr.index 44 (.agg #[.int .i64 x, .int .i64 y, .int .i64 z]) (.int .i64 2)).run Try.prog w = .ok (.int .i64 z) w := fun _ => by kernel_rfl
  go_enter Try.func37, Try.ntmps37
  go_wp2
  refine wp_loop_rounds 4 ?_
  rw [rounds_succ]
  go_wp2
  rw [rounds_succ]
  go_wp2
  rw [rounds_succ]
  go_wp2
  rw [rounds_succ]
  go_wp2_with fail
  refine (rhy_any _ _ _).mono ?_
  rintro e w' ⟨rfl, rfl⟩
  generalize hy x y = H at hh ⊢
  go_wp2_with fail
  refine (ra2_any _ _ _).mono ?_
  rintro e w' ⟨rfl, rfl⟩
  generalize a2 z H.1 = U at hh ⊢
  go_wp2_with fail
  refine (ra2_any _ _ _).mono ?_
  rintro e w' ⟨rfl, rfl⟩
  generalize a2 y x = V at hh ⊢
  go_wp2_with (go_at_call 62; refine (rsigned_any _ _).mono ?_; rintro e w' ⟨rfl, rfl⟩)
  exact bodyPost_ret (v := .tuple #[posV (adiff 0 U.1) (adiff 0 V.1), .int .i64 0]) (by simp [results, Try.results37, go_sem, *]) rfl ⟨ps3 hh.out.symm, by go_grown⟩
set_option maxHeartbeats 1600000 in
theorem rpos_or (x y z : Int) (w : World) (nx1 : ¬ x > 1342177280) (nx2 : ¬ x < -1342177280) (ny1 : ¬ y > 1342177280) (ny2 : ¬ y < -1342177280) (nz1 : ¬ z > 1342177280) (nz2 : ¬ z < -1342177280) (e0 : (x == 0) = true) (e0b : (y == 0) = true) (e1 : (z == 0) = false) (hh : Hid (posn x y z = (adiff 0 (a2 z (hy x y).1).1, adiff 0 (a2 y x).1, 0))) :
    Calls Try.prog 37 #[vecV x y z] w fun e w' => e = Ps3 (posn x y z) ∧ Below w.heap.size w w' := by
  have i0 : ∀ w : World, (Instr.index 44 (.agg #[.int .i64 x, .int .i64 y, .int .i64 z]) (.int .i64 0)).run Try.prog w = .ok (.int .i64 x) w := fun _ => by kernel_rfl
  have i1 : ∀ w : World, (Instr.index 44 (.agg #[.int .i64 x, .int .i64 y, .int .i64 z]) (.int .i64 1)).run Try.prog w = .ok (.int .i64 y) w := fun _ => by kernel_rfl
  have i2 : ∀ w : World, (Instr.index 44 (.agg #[.int .i64 x, .int .i64 y, .int .i64 z]) (.int .i64 2)).run Try.prog w = .ok (.int .i64 z) w := fun _ => by kernel_rfl
  go_enter Try.func37, Try.ntmps37
  go_wp2
  refine wp_loop_rounds 4 ?_
  rw [rounds_succ]
  go_wp2
  rw [rounds_succ]
  go_wp2
  rw [rounds_succ]
  go_wp2
  rw [rounds_succ]
  go_wp2_with fail
  refine (rhy_any _ _ _).mono ?_
  rintro e w' ⟨rfl, rfl⟩
  generalize hy x y = H at hh ⊢
  go_wp2_with fail
  refine (ra2_any _ _ _).mono ?_
  rintro e w' ⟨rfl, rfl⟩
  generalize a2 z H.1 = U at hh ⊢
  go_wp2_with fail
  refine (ra2_any _ _ _).mono ?_
  rintro e w' ⟨rfl, rfl⟩
  generalize a2 y x = V at hh ⊢
  go_wp2_with (go_at_call 62; refine (rsigned_any _ _).mono ?_; rintro e w' ⟨rfl, rfl⟩)
  exact bodyPost_ret (v := .tuple #[posV (adiff 0 U.1) (adiff 0 V.1), .int .i64 0]) (by simp [results, Try.results37, go_sem, *]) rfl ⟨ps3 hh.out.symm, by go_grown⟩
theorem rpos_any (x y z : Int) (w : World) : Calls Try.prog 37 #[vecV x y z] w fun e w' => e = Ps3 (posn x y z) ∧ Below w.heap.size w w' := by
  have er : (big x || (big y || big z)) = true → Hid (posn x y z = (0, 0, 1)) := fun h => Lib.hid (by simp only [posn, h, Bool.true_or, if_true])
  have zr : (x = 0 ∧ y = 0 ∧ z = 0) → Hid (posn x y z = (0, 0, 1)) := fun h => Lib.hid (by unfold posn; rw [if_pos (by rw [decide_eq_true h, Bool.or_true])])
  have okr : big x = false → big y = false → big z = false → ¬ (x = 0 ∧ y = 0 ∧ z = 0) → Hid (posn x y z = (adiff 0 (a2 z (hy x y).1).1, adiff 0 (a2 y x).1, 0)) := fun h1 h2 h3 h4 => Lib.hid (by unfold posn; rw [if_neg (by simp only [h1, h2, h3, decide_eq_false h4]; decide)])
  have bz : ∀ {u : Int}, u = 0 → (u == 0) = true := fun h => by rw [beq_iff_eq]; exact h
  rcases big_cases x with ⟨b1, hx⟩ | ⟨b0, b1, hx⟩ | ⟨n1, n2, hx⟩
  ·
    rcases zero_cases x y z with ⟨e1, nz⟩ | ⟨e0, e1, nz⟩ | ⟨e0, e0b, e1, nz⟩ | ez
    · exact rpos_ap x y z w (er (by simp [hx.out])) b1 e1
    · exact rpos_aq x y z w (er (by simp [hx.out])) b1 (bz e0) e1
    · exact rpos_ar x y z w (er (by simp [hx.out])) b1 (bz e0) (bz e0b) e1
    · exact absurd ez (by omega)
  ·
    rcases zero_cases x y z with ⟨e1, nz⟩ | ⟨e0, e1, nz⟩ | ⟨e0, e0b, e1, nz⟩ | ez
    · exact rpos_bp x y z w (er (by simp [hx.out])) b0 b1 e1
    · exact rpos_bq x y z w (er (by simp [hx.out])) b0 b1 (bz e0) e1
    · exact rpos_br x y z w (er (by simp [hx.out])) b0 b1 (bz e0) (bz e0b) e1
    · exact absurd ez (by omega)
  ·
    rcases big_cases y with ⟨b1, hy⟩ | ⟨b0, b1, hy⟩ | ⟨n3, n4, hy⟩
    ·
      rcases zero_cases x y z with ⟨e1, nz⟩ | ⟨e0, e1, nz⟩ | ⟨e0, e0b, e1, nz⟩ | ez
      · exact rpos_cp x y z w (er (by simp [hy.out])) n1 n2 b1 e1
      · exact rpos_cq x y z w (er (by simp [hy.out])) n1 n2 b1 (bz e0) e1
      · exact rpos_cr x y z w (er (by simp [hy.out])) n1 n2 b1 (bz e0) (bz e0b) e1
      · exact absurd ez (by omega)
    ·
      rcases zero_cases x y z with ⟨e1, nz⟩ | ⟨e0, e1, nz⟩ | ⟨e0, e0b, e1, nz⟩ | ez
      · exact rpos_dp x y z w (er (by simp [hy.out])) n1 n2 b0 b1 e1
      · exact rpos_dq x y z w (er (by simp [hy.out])) n1 n2 b0 b1 (bz e0) e1
      · exact rpos_dr x y z w (er (by simp [hy.out])) n1 n2 b0 b1 (bz e0) (bz e0b) e1
      · exact absurd ez (by omega)
    ·
      rcases big_cases z with ⟨b1, hz⟩ | ⟨b0, b1, hz⟩ | ⟨n5, n6, hz⟩
      ·
        rcases zero_cases x y z with ⟨e1, nz⟩ | ⟨e0, e1, nz⟩ | ⟨e0, e0b, e1, nz⟩ | ez
        · exact rpos_ep x y z w (er (by simp [hz.out])) n1 n2 n3 n4 b1 e1
        · exact rpos_eq x y z w (er (by simp [hz.out])) n1 n2 n3 n4 b1 (bz e0) e1
        · exact rpos_er x y z w (er (by simp [hz.out])) n1 n2 n3 n4 b1 (bz e0) (bz e0b) e1
        · exact absurd ez (by omega)
      ·
        rcases zero_cases x y z with ⟨e1, nz⟩ | ⟨e0, e1, nz⟩ | ⟨e0, e0b, e1, nz⟩ | ez
        · exact rpos_fp x y z w (er (by simp [hz.out])) n1 n2 n3 n4 b0 b1 e1
        · exact rpos_fq x y z w (er (by simp [hz.out])) n1 n2 n3 n4 b0 b1 (bz e0) e1
        · exact rpos_fr x y z w (er (by simp [hz.out])) n1 n2 n3 n4 b0 b1 (bz e0) (bz e0b) e1
        · exact absurd ez (by omega)
      ·
        rcases zero_cases x y z with ⟨e1, nz⟩ | ⟨e0, e1, nz⟩ | ⟨e0, e0b, e1, nz⟩ | ez
        · exact rpos_op x y z w n1 n2 n3 n4 n5 n6 e1 (okr hx.out hy.out hz.out nz.out)
        · exact rpos_oq x y z w n1 n2 n3 n4 n5 n6 (bz e0) e1 (okr hx.out hy.out hz.out nz.out)
        · exact rpos_or x y z w n1 n2 n3 n4 n5 n6 (bz e0) (bz e0b) e1 (okr hx.out hy.out hz.out nz.out)
        · exact rpos_z x y z w (zr ez) n1 n2 n3 n4 n5 n6 (bz ez.1) (bz ez.2.1) (bz ez.2.2)
end Go.Proofs.Ytmlacekgmdlfjaa
