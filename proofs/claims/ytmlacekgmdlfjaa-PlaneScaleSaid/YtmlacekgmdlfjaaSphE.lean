/- The reference of package sphere: vectors, slopes. -/
import Derived.Test.YtmlacekgmdlfjaaSphB
namespace Go.Proofs.Ytmlacekgmdlfjaa
open Go.RowKit Go.Joins Fdk
set_option linter.unusedVariables false

set_option maxHeartbeats 1600000 in
theorem rOf_any (a b : Int) (w : World) :
    Calls Try.prog 32 #[posV a b] w fun e w' => e = V4 (ofv a b) ∧ Below w.heap.size w w' := by
  cases h1 : vd a b
  · have hh := Lib.hid (show ofv a b = (0, 0, 0, 1) by simp [ofv, h1])
    go_enter Try.func32, Try.ntmps32
    go_wp2_with fail
    refine (rvalid_any _ _ _).mono ?_
    rintro e w1 ⟨rfl, hb⟩
    have B := thn (below_alloc2 w _ _) hb
    have Z := (c3_new _ (.int .i64 0) (.int .i64 0) (.int .i64 0) 44).next hb
    simp only [World.alloc, Array.size_push] at Z
    obtain ⟨z0, z1, z2, f0, f1, f2, l⟩ := id Z
    rw [h1]
    go_wp2
    exact bodyPost_ret (v := .tuple #[vecV 0 0 0, .int .i64 1]) (by simp [results, Try.results32, go_sem, *]) rfl ⟨v4 hh.out.symm, below_put3 B (b := w.heap.size + 1) (Nat.le_succ _) _ _ _⟩
  · have hh := Lib.hid (show ofv a b = (rd (cn a * cn b), rd (cn a * sn b), sn a, 0) by simp [ofv, h1])
    have ⟨p0, p1⟩ := cc_b a b
    have ⟨q0, q1⟩ := cs_b a b
    have e1 : IntKind.i64.wrap (cn a * cn b) = cn a * cn b := IntWalk.i64_in _ (by omega)
    have e2 : IntKind.i64.wrap (cn a * sn b) = cn a * sn b := IntWalk.i64_in _ (by omega)
    go_enter Try.func32, Try.ntmps32
    go_wp2_with fail
    refine (rvalid_any _ _ _).mono ?_
    rintro e w1 ⟨rfl, hb⟩
    have B := thn (below_alloc2 w _ _) hb
    have T := ((c2_new w (.int .i64 a) (.int .i64 b) 23).alc _).next hb
    have Z := (c3_new _ (.int .i64 0) (.int .i64 0) (.int .i64 0) 44).next hb
    simp only [World.alloc, Array.size_push] at Z
    obtain ⟨c0, c1, g0, g1, l0⟩ := id T
    rw [h1]
    go_wp2_with (first | (go_at_call 36; refine (rcos_any _ _).mono ?_; rintro e w' ⟨rfl, rfl⟩))
    obtain ⟨z0, z1, z2, f0, f1, f2, l⟩ := id Z
    go_region_held (fun w' => w'.cell? ⟨w.heap.size, 0, none⟩ = some (.int .i64 a) ∧ w'.cell? ⟨w.heap.size, 1, none⟩ = some (.int .i64 b)) (go_keep)
      (first | (go_at_call 36; refine (rcos_any _ _).mono ?_; rintro e w' ⟨rfl, rfl⟩) | (go_at_call 35; refine (rsin_any _ _).mono ?_; rintro e w' ⟨rfl, rfl⟩) | (go_at_call 55; refine (rround_any _ _ (by omega) (by omega)).mono ?_; rintro e w' ⟨rfl, rfl⟩))
    go_wp2
    exact bodyPost_ret (v := .tuple #[vecV (rd (cn a * cn b)) (rd (cn a * sn b)) (sn a), .int .i64 0]) (by simp [results, Try.results32, go_sem, *]) rfl ⟨v4 hh.out.symm, below_put3 (thn B (bdrew _)) (b := w.heap.size + 1) (Nat.le_succ _) _ _ _⟩
set_option maxHeartbeats 1600000 in
theorem rslo_any (a b : Int) (w : World) :
    Calls Try.prog 33 #[posV a b] w fun e w' => e = TwoInts (rd (sn a * cn b)) (rd (sn a * sn b)) ∧ Below w.heap.size w w' := by
  have ⟨p0, p1⟩ := sc_b a b
  have ⟨q0, q1⟩ := ss_b a b
  have e1 : IntKind.i64.wrap (sn a * cn b) = sn a * cn b := IntWalk.i64_in _ (by omega)
  have e2 : IntKind.i64.wrap (sn a * sn b) = sn a * sn b := IntWalk.i64_in _ (by omega)
  go_enter Try.func33, Try.ntmps33
  go_wp2_with (first | (go_at_call 35; refine (rsin_any _ _).mono ?_; rintro e w' ⟨rfl, rfl⟩))
  go_region_held (fun w' => w'.cell? ⟨w.heap.size, 0, none⟩ = some (.int .i64 a) ∧ w'.cell? ⟨w.heap.size, 1, none⟩ = some (.int .i64 b)) (go_keep)
    (first | (go_at_call 36; refine (rcos_any _ _).mono ?_; rintro e w' ⟨rfl, rfl⟩) | (go_at_call 35; refine (rsin_any _ _).mono ?_; rintro e w' ⟨rfl, rfl⟩) | (go_at_call 55; refine (rround_any _ _ (by omega) (by omega)).mono ?_; rintro e w' ⟨rfl, rfl⟩))
  go_wp2
  go_ret2
  exact ⟨rfl, by go_grown⟩
end Go.Proofs.Ytmlacekgmdlfjaa
