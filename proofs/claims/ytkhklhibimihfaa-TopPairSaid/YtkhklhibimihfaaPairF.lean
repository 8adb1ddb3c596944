/- The contract of constraint.Conflicts. -/
import Derived.Test.YtkhklhibimihfaaPairE
namespace Go.Proofs.Ytkhklhibimihfaa
open Go.RowKit Go.Joins Fdk
set_option linter.unusedVariables false
abbrev cnV (i j : Int) (b : Bool) (E : Int) : Value := .tuple #[.agg #[.int .i64 i, .int .i64 j], .bool b, .int .i64 E]
/-- how Conflicts ends. -/
def ConEnd (n m : Nat) (A B U D : Nat → Int) (e : Ending) : Prop :=
  (¬ Okc n m A B U D ∧ ∃ E, E ≠ 0 ∧ e = .returned (cnV 0 0 false E)) ∨
  (Okc n m A B U D ∧ (∀ i j, ¬ Good n A B U D i j) ∧ e = .returned (cnV 0 0 false 0)) ∨
  (Okc n m A B U D ∧ ∃ i j : Nat, Good n A B U D i j ∧ e = .returned (cnV i j true 0))
set_option maxHeartbeats 4000000 in
theorem conflicts_any (q p : Option Addr) (n c m d : Nat) (A B U D : Nat → Int) (w : World) (hW : S2 w q n c A B) (hS : S2 w p m d U D) :
    Calls Try.prog 5 #[.slice q n c, .slice p m d] w fun e w' => ConEnd n m A B U D e ∧ Below w.heap.size w w' := by
  have HC := Lib.hid (fun (w' : World) (h : Below w.heap.size w w') => all_any q p n c m d A B U D w' (hW.next h) (hS.next h))
  clear hW hS
  go_enter Try.func5, Try.ntmps5
  go_wp2_with fail
  refine (HC.out _ (below_alloc1 w _)).mono ?_
  rintro e w1 ⟨hE, hb⟩
  have Z := (c2_new w (.int .i64 0) (.int .i64 0) 26).next hb
  have HB := Lib.hid (thn (below_alloc1 w _) hb)
  clear hb HC
  rcases hE with ⟨hK, E, hE, rfl⟩ | ⟨hK, hG, rfl⟩ | ⟨hK, v, rfl, hF⟩
  · obtain ⟨z0, z1, z2, z3, zl⟩ := id Z
    go_wp2_with fail
    have Z5 := Z.put (.int .i64 0) (.int .i64 0)
    have B5 := below_put2 HB.out (b := w.heap.size) (Nat.le_refl _) (.int .i64 0) (.int .i64 0)
    clear Z HB z0 z1 z2 z3 zl
    generalize (w1.setCell ⟨w.heap.size, 0, none⟩ (.int .i64 0)).setCell ⟨w.heap.size, 1, none⟩ (.int .i64 0) = w5 at *
    obtain ⟨z0, z1, z2, z3, zl⟩ := Z5
    exact bodyPost_ret (v := cnV 0 0 false E) (by simp [results, Try.results5, go_sem, z0, z1]) rfl ⟨.inl ⟨hK, E, hE, rfl⟩, B5⟩
  · obtain ⟨z0, z1, z2, z3, zl⟩ := id Z
    go_wp2_with fail
    have Z5 := Z.put (.int .i64 0) (.int .i64 0)
    have B5 := below_put2 HB.out (b := w.heap.size) (Nat.le_refl _) (.int .i64 0) (.int .i64 0)
    clear Z HB z0 z1 z2 z3 zl
    generalize (w1.setCell ⟨w.heap.size, 0, none⟩ (.int .i64 0)).setCell ⟨w.heap.size, 1, none⟩ (.int .i64 0) = w5 at *
    obtain ⟨z0, z1, z2, z3, zl⟩ := Z5
    exact bodyPost_ret (v := cnV 0 0 false 0) (by simp [results, Try.results5, go_sem, z0, z1]) rfl ⟨.inr (.inl ⟨hK, hG, rfl⟩), B5⟩
  · obtain ⟨g, k, cap, i, j, rfl, hk, hm, hg, c0, c1, hij⟩ := hF.ex
    have HX := Lib.hid (And.intro hK hij)
    have k1 : (k : Int) ≤ 9223372036854775807 := by unfold maxLen at hm; omega
    have k2 : (0 : Int) < k := by omega
    have k3 : ((k : Int) == 0) = false := by rw [beq_eq_false_iff_ne]; omega
    have k4 : ¬ k = 0 := by omega
    clear hK hij hm hF
    obtain ⟨z0, z1, z2, z3, zl⟩ := id Z
    go_wp2_with fail
    clear c0 c1
    have Z5 := Z.put (.int .i64 i) (.int .i64 j)
    have B5 := below_put2 HB.out (b := w.heap.size) (Nat.le_refl _) (.int .i64 i) (.int .i64 j)
    clear Z HB z0 z1 z2 z3 zl
    generalize (w1.setCell ⟨w.heap.size, 0, none⟩ (.int .i64 i)).setCell ⟨w.heap.size, 1, none⟩ (.int .i64 j) = w5 at *
    obtain ⟨z0, z1, z2, z3, zl⟩ := Z5
    exact bodyPost_ret (v := cnV i j true 0) (by simp [results, Try.results5, go_sem, z0, z1]) rfl ⟨.inr (.inr ⟨HX.out.1, i, j, HX.out.2, rfl⟩), B5⟩
end Go.Proofs.Ytkhklhibimihfaa
