/- Package sphere: the frame at a position, and the components of another position in it. -/
import Derived.Test.YtpgpdglmgpjhlaaSphB
import Derived.Deep.MidRow
import Derived.StillTailTactics
namespace Go.Proofs.Ytpgpdglmgpjhlaa
open Go.RowKit Go.Joins Fdk
set_option linter.unusedVariables false

abbrev frmV (a b : Int) : Value := .agg #[.int .i64 (-sn b), .int .i64 (cn b), .int .i64 0, .int .i64 (-rd (sn a * cn b)), .int .i64 (-rd (sn a * sn b)), .int .i64 (cn a), .int .i64 (rd (cn a * cn b)), .int .i64 (rd (cn a * sn b)), .int .i64 (sn a)]
theorem keep2 {a w1 w2 : World} {b : Nat} {x y : Value} (h : Below a.heap.size a w1 ∧ b < w1.heap.size ∧ w1.cell? ⟨b, 0, none⟩ = some x ∧ w1.cell? ⟨b, 1, none⟩ = some y)
    (k : Below w1.heap.size w1 w2) : Below a.heap.size a w2 ∧ b < w2.heap.size ∧ w2.cell? ⟨b, 0, none⟩ = some x ∧ w2.cell? ⟨b, 1, none⟩ = some y := by
  obtain ⟨B, l, c0, c1⟩ := h
  exact ⟨thn B k, Nat.lt_of_lt_of_le l k.size, (k.cell (p := ⟨b, 0, none⟩) l).trans c0, (k.cell (p := ⟨b, 1, none⟩) l).trans c1⟩
theorem keep2p {a w1 : World} {b c : Nat} {x y : Value} (h : Below a.heap.size a w1 ∧ b < w1.heap.size ∧ w1.cell? ⟨b, 0, none⟩ = some x ∧ w1.cell? ⟨b, 1, none⟩ = some y) (hc : a.heap.size ≤ c) (hb : c ≠ b) (y0 y1 y2 y3 y4 y5 y6 y7 y8 : Value) :
    Below a.heap.size a (((((((((w1.setCell ⟨c, 0, none⟩ y0).setCell ⟨c, 1, none⟩ y1).setCell ⟨c, 2, none⟩ y2).setCell ⟨c, 3, none⟩ y3).setCell ⟨c, 4, none⟩ y4).setCell ⟨c, 5, none⟩ y5).setCell ⟨c, 6, none⟩ y6).setCell ⟨c, 7, none⟩ y7).setCell ⟨c, 8, none⟩ y8) ∧ b < ((((((((((w1.setCell ⟨c, 0, none⟩ y0).setCell ⟨c, 1, none⟩ y1).setCell ⟨c, 2, none⟩ y2).setCell ⟨c, 3, none⟩ y3).setCell ⟨c, 4, none⟩ y4).setCell ⟨c, 5, none⟩ y5).setCell ⟨c, 6, none⟩ y6).setCell ⟨c, 7, none⟩ y7).setCell ⟨c, 8, none⟩ y8)).heap.size ∧ ((((((((((w1.setCell ⟨c, 0, none⟩ y0).setCell ⟨c, 1, none⟩ y1).setCell ⟨c, 2, none⟩ y2).setCell ⟨c, 3, none⟩ y3).setCell ⟨c, 4, none⟩ y4).setCell ⟨c, 5, none⟩ y5).setCell ⟨c, 6, none⟩ y6).setCell ⟨c, 7, none⟩ y7).setCell ⟨c, 8, none⟩ y8)).cell? ⟨b, 0, none⟩ = some x ∧ ((((((((((w1.setCell ⟨c, 0, none⟩ y0).setCell ⟨c, 1, none⟩ y1).setCell ⟨c, 2, none⟩ y2).setCell ⟨c, 3, none⟩ y3).setCell ⟨c, 4, none⟩ y4).setCell ⟨c, 5, none⟩ y5).setCell ⟨c, 6, none⟩ y6).setCell ⟨c, 7, none⟩ y7).setCell ⟨c, 8, none⟩ y8)).cell? ⟨b, 1, none⟩ = some y := by
  obtain ⟨B, l, c0, c1⟩ := h
  refine ⟨below_put9 B hc y0 y1 y2 y3 y4 y5 y6 y7 y8, by simpa using l, ?_, ?_⟩
  · repeat rw [cother (fun e => hb (congrArg Addr.block e))]
    exact c0
  · repeat rw [cother (fun e => hb (congrArg Addr.block e))]
    exact c1
end Go.Proofs.Ytpgpdglmgpjhlaa
