/- Package sphere: Local. -/
import Derived.Test.YtmlacekgmdlfjaaSphF
namespace Go.Proofs.Ytmlacekgmdlfjaa
open Go.RowKit Go.Joins Fdk
set_option linter.unusedVariables false
/-- the components of one position as seen from another, and the error. -/
def lclv (a b c d : Int) : Int × Int × Int × Int := if vd a b && vd c d then (lx b c d, ly a b c d, lz a b c d, 0) else (0, 0, 0, 1)
set_option maxHeartbeats 1600000 in
theorem Local_a (a b c d : Int) (w : World) (h1 : vd a b = false) :
    Calls Try.prog 38 #[posV a b, posV c d] w fun e w' => e = V4 (0, 0, 0, 1) ∧ Below w.heap.size w w' := by
  go_enter Try.func38, Try.ntmps38
  go_wp2_with fail
  refine (valid_any _ _ _).mono ?_
  rintro e w1 ⟨rfl, hb⟩
  have B := thn (below_alloc3 w _ _ _) hb
  have Z := (c3_new _ (.int .i64 0) (.int .i64 0) (.int .i64 0) 44).next hb
  simp only [World.alloc, Array.size_push] at Z
  obtain ⟨z0, z1, z2, f0, f1, f2, l⟩ := id Z
  rw [h1]
  go_wp2
  exact bodyPost_ret (v := .tuple #[vecV 0 0 0, .int .i64 1]) (by simp [results, Try.results38, go_sem, *]) rfl ⟨rfl, below_put3 B (b := w.heap.size + 1 + 1) (Nat.le_succ_of_le (Nat.le_succ _)) _ _ _⟩
set_option maxHeartbeats 1600000 in
theorem Local_b (a b c d : Int) (w : World) (h1 : vd a b = true) (h2 : vd c d = false) :
    Calls Try.prog 38 #[posV a b, posV c d] w fun e w' => e = V4 (0, 0, 0, 1) ∧ Below w.heap.size w w' := by
  go_enter Try.func38, Try.ntmps38
  go_wp2_with fail
  refine (valid_any _ _ _).mono ?_
  rintro e w1 ⟨rfl, hb⟩
  have B := thn (below_alloc3 w _ _ _) hb
  have U := ((c2_new _ (.int .i64 c) (.int .i64 d) 23).alc _).next hb
  have Z := (c3_new _ (.int .i64 0) (.int .i64 0) (.int .i64 0) 44).next hb
  simp only [World.alloc, Array.size_push] at Z U
  obtain ⟨d0, d1, j0, j1, l1⟩ := id U
  rw [h1]
  go_wp2_with fail
  refine (valid_any _ _ _).mono ?_
  rintro e w2 ⟨rfl, hb2⟩
  replace B := thn B hb2
  replace Z := Z.next hb2
  clear d0 d1 j0 j1 l1
  obtain ⟨z0, z1, z2, f0, f1, f2, l⟩ := id Z
  rw [h2]
  go_wp2
  exact bodyPost_ret (v := .tuple #[vecV 0 0 0, .int .i64 1]) (by simp [results, Try.results38, go_sem, *]) rfl ⟨rfl, below_put3 B (b := w.heap.size + 1 + 1) (Nat.le_succ_of_le (Nat.le_succ _)) _ _ _⟩
set_option maxHeartbeats 1600000 in
theorem Local_c (a b c d : Int) (w : World) (h1 : vd a b = true) (h2 : vd c d = true) :
    Calls Try.prog 38 #[posV a b, posV c d] w fun e w' => e = V4 (lx b c d, ly a b c d, lz a b c d, 0) ∧ Below w.heap.size w w' := by
  go_enter Try.func38, Try.ntmps38
  go_wp2_with fail
  refine (valid_any _ _ _).mono ?_
  rintro e w1 ⟨rfl, hb⟩
  have B := thn (below_alloc3 w _ _ _) hb
  have T := (((c2_new w (.int .i64 a) (.int .i64 b) 23).alc _).alc _).next hb
  have U := ((c2_new _ (.int .i64 c) (.int .i64 d) 23).alc _).next hb
  have Z := (c3_new _ (.int .i64 0) (.int .i64 0) (.int .i64 0) 44).next hb
  simp only [World.alloc, Array.size_push] at Z U
  obtain ⟨d0, d1, j0, j1, l1⟩ := id U
  rw [h1]
  go_wp2_with fail
  refine (valid_any _ _ _).mono ?_
  rintro e w2 ⟨rfl, hb2⟩
  replace B := thn B hb2
  replace Z := Z.next hb2
  replace T := T.next hb2
  replace U := U.next hb2
  clear d0 d1 j0 j1 l1
  obtain ⟨d0, d1, j0, j1, l1⟩ := id U
  obtain ⟨t0, t1, t2, t3, tl⟩ := id T
  rw [h2]
  go_wp2_with fail
  refine (local_any _ _ _ _ _).mono ?_
  rintro e w3 ⟨rfl, hb3⟩
  replace B := thn B hb3
  replace Z := Z.next hb3
  clear d0 d1 j0 j1 l1 t0 t1 t2 t3 tl
  obtain ⟨z0, z1, z2, f0, f1, f2, l⟩ := id Z
  go_wp2
  exact bodyPost_ret (v := .tuple #[vecV (lx b c d) (ly a b c d) (lz a b c d), .int .i64 0]) (by simp [results, Try.results38, go_sem, *]) rfl ⟨rfl, below_put3 B (b := w.heap.size + 1 + 1) (Nat.le_succ_of_le (Nat.le_succ _)) _ _ _⟩
theorem Local_any (a b c d : Int) (w : World) :
    Calls Try.prog 38 #[posV a b, posV c d] w fun e w' => e = V4 (lclv a b c d) ∧ Below w.heap.size w w' := by
  unfold lclv
  cases h1 : vd a b
  · exact Local_a a b c d w h1
  cases h2 : vd c d
  · exact Local_b a b c d w h1 h2
  · exact Local_c a b c d w h1 h2
end Go.Proofs.Ytmlacekgmdlfjaa
