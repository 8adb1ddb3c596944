/- Package sphere: the components of one position as seen from another. -/
import Derived.Test.YtpgpdglmgpjhlaaSphD
import Derived.Deep.RegionHeld3
import Derived.Deep.DeepCutAuto
namespace Go.Proofs.Ytpgpdglmgpjhlaa
open Go.RowKit Go.Joins Fdk
set_option linter.unusedVariables false
theorem c9_new1 (w : World) (o : Obj) (x0 x1 x2 x3 x4 x5 x6 x7 x8 : Value) (t : TypeId) : C9 ((w.alloc o).alloc (.cells #[x0, x1, x2, x3, x4, x5, x6, x7, x8] t)) (w.heap.size + 1) x0 x1 x2 x3 x4 x5 x6 x7 x8 := by
  have h := c9_new (w.alloc o) x0 x1 x2 x3 x4 x5 x6 x7 x8 t
  rw [show (w.alloc o).heap.size = w.heap.size + 1 by simp] at h
  exact h
theorem c3_newp9 (w : World) (b : Nat) (v0 v1 v2 v3 v4 v5 v6 v7 v8 x y z : Value) (t : TypeId) : C3 ((((((((((w.setCell ⟨b, 0, none⟩ v0).setCell ⟨b, 1, none⟩ v1).setCell ⟨b, 2, none⟩ v2).setCell ⟨b, 3, none⟩ v3).setCell ⟨b, 4, none⟩ v4).setCell ⟨b, 5, none⟩ v5).setCell ⟨b, 6, none⟩ v6).setCell ⟨b, 7, none⟩ v7).setCell ⟨b, 8, none⟩ v8).alloc (.cells #[x, y, z] t)) w.heap.size x y z := by
  have h := c3_new (((((((((w.setCell ⟨b, 0, none⟩ v0).setCell ⟨b, 1, none⟩ v1).setCell ⟨b, 2, none⟩ v2).setCell ⟨b, 3, none⟩ v3).setCell ⟨b, 4, none⟩ v4).setCell ⟨b, 5, none⟩ v5).setCell ⟨b, 6, none⟩ v6).setCell ⟨b, 7, none⟩ v7).setCell ⟨b, 8, none⟩ v8) x y z t
  rw [show ((((((((((w.setCell ⟨b, 0, none⟩ v0).setCell ⟨b, 1, none⟩ v1).setCell ⟨b, 2, none⟩ v2).setCell ⟨b, 3, none⟩ v3).setCell ⟨b, 4, none⟩ v4).setCell ⟨b, 5, none⟩ v5).setCell ⟨b, 6, none⟩ v6).setCell ⟨b, 7, none⟩ v7).setCell ⟨b, 8, none⟩ v8)).heap.size = w.heap.size by simp] at h
  exact h
theorem c9_newp3 (w : World) (b : Nat) (v0 v1 v2 : Value) (x0 x1 x2 x3 x4 x5 x6 x7 x8 : Value) (t : TypeId) : C9 ((((w.setCell ⟨b, 0, none⟩ v0).setCell ⟨b, 1, none⟩ v1).setCell ⟨b, 2, none⟩ v2).alloc (.cells #[x0, x1, x2, x3, x4, x5, x6, x7, x8] t)) w.heap.size x0 x1 x2 x3 x4 x5 x6 x7 x8 := by
  have h := c9_new (((w.setCell ⟨b, 0, none⟩ v0).setCell ⟨b, 1, none⟩ v1).setCell ⟨b, 2, none⟩ v2) x0 x1 x2 x3 x4 x5 x6 x7 x8 t
  rw [show ((((w.setCell ⟨b, 0, none⟩ v0).setCell ⟨b, 1, none⟩ v1).setCell ⟨b, 2, none⟩ v2)).heap.size = w.heap.size by simp] at h
  exact h
theorem C9.else3 {w : World} {b b' : Nat} {x0 x1 x2 x3 x4 x5 x6 x7 x8 : Value} (h : C9 w b x0 x1 x2 x3 x4 x5 x6 x7 x8) (hne : b' ≠ b) (v0 v1 v2 : Value) : C9 (((w.setCell ⟨b', 0, none⟩ v0).setCell ⟨b', 1, none⟩ v1).setCell ⟨b', 2, none⟩ v2) b x0 x1 x2 x3 x4 x5 x6 x7 x8 := (((h.else (p := ⟨b', 0, none⟩) hne v0).else (p := ⟨b', 1, none⟩) hne v1).else (p := ⟨b', 2, none⟩) hne v2)
theorem C3.else9 {w : World} {b b' : Nat} {x y z : Value} (h : C3 w b x y z) (hne : b' ≠ b) (v0 v1 v2 v3 v4 v5 v6 v7 v8 : Value) : C3 (((((((((w.setCell ⟨b', 0, none⟩ v0).setCell ⟨b', 1, none⟩ v1).setCell ⟨b', 2, none⟩ v2).setCell ⟨b', 3, none⟩ v3).setCell ⟨b', 4, none⟩ v4).setCell ⟨b', 5, none⟩ v5).setCell ⟨b', 6, none⟩ v6).setCell ⟨b', 7, none⟩ v7).setCell ⟨b', 8, none⟩ v8) b x y z := (((((((((h.else (p := ⟨b', 0, none⟩) hne v0).else (p := ⟨b', 1, none⟩) hne v1).else (p := ⟨b', 2, none⟩) hne v2).else (p := ⟨b', 3, none⟩) hne v3).else (p := ⟨b', 4, none⟩) hne v4).else (p := ⟨b', 5, none⟩) hne v5).else (p := ⟨b', 6, none⟩) hne v6).else (p := ⟨b', 7, none⟩) hne v7).else (p := ⟨b', 8, none⟩) hne v8)

def One1 (x : Int) : Prop := -1073741824 ≤ x ∧ x ≤ 1073741824
theorem one_neg {x : Int} (h : One1 x) : One1 (-x) := by unfold One1 at *; omega
theorem one_0 : One1 0 := by unfold One1; omega
theorem one_rd {x : Int} (h : -1152921504606846976 ≤ x ∧ x ≤ 1152921504606846976) : One1 (rd x) := rd_b h.1 h.2
def lx (b c d : Int) : Int := rd (-sn b * rd (cn c * cn d) + cn b * rd (cn c * sn d))
def ly (a b c d : Int) : Int := rd (-rd (sn a * cn b) * rd (cn c * cn d) + -rd (sn a * sn b) * rd (cn c * sn d) + cn a * sn c)
def lz (a b c d : Int) : Int := rd (rd (cn a * cn b) * rd (cn c * cn d) + rd (cn a * sn b) * rd (cn c * sn d) + sn a * sn c)
end Go.Proofs.Ytpgpdglmgpjhlaa
