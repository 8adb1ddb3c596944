/- Pairs of numbers (arrays of two) as arguments: opened and shut. No condition. -/
import Derived.Test.YtgcmmfclnialfaaRows
import Derived.ProofKit
import Derived.OpenShut
import Derived.ShutString
import Derived.Lib.SmallJoins
namespace Go.Proofs.Ytgcmmfclnialfaa
open Go.ChangeShapes Go.WideShapes Go.ChangeAt Go.RowKit Go.Joins
set_option linter.unusedVariables false

theorem car2 : Try.prog.cellsOf 39 = 2 := by kernel_rfl
theorem ci64b : Try.prog.cellsOf 2 = 1 := by kernel_rfl
theorem okWide_arrb {P : Program} {r : Reach} {b0 n : Nat} {t e : TypeId} {v : Value} {w : World} (ht : P.underlying t = some (.array n e)) (h : Value.okWide P w r b0 t v) : ∃ cs, v = .agg cs ∧ cs.size = P.cellsOf t := by
  simp only [Value.okWide, ht] at h
  obtain ⟨cs, h1, h2, _⟩ := h
  exact ⟨cs, h1, h2⟩
theorem array2b {α : Type} {a : Array α} (h : a.size = 2) : ∃ x y, a = #[x, y] := by
  rcases a with ⟨l⟩
  match l, h with
  | [x, y], _ => exact ⟨x, y, rfl⟩
section
variable {H : Type} {enc : TypeId × Value → H} {w : World} {base : Nat} {spare : Nat → Bool} {held : Bool}
theorem oar2 {r : Reach} {b0 : Nat} {v : Value} {d : DataW H} {p : List MemPlace} (hv : Value.okWide Try.prog w r b0 39 v) (h : DataW.Trod enc Try.prog w base spare held 39 v d p) :
    ∃ a b : Int, v = .agg #[.int .i64 a, .int .i64 b] ∧ d = .agg [.lit (.int .i64 a), .lit (.int .i64 b)] ∧ p = [] ∧
      (Lit.int .i64 a).wf = true ∧ (Lit.int .i64 b).wf = true := by
  obtain ⟨cs, rfl, hsz⟩ := okWide_arrb Try.underlying39 hv
  obtain ⟨c0, c1, rfl⟩ := array2b (hsz.trans car2)
  obtain ⟨fuel, hf⟩ := h
  obtain ⟨xs, m, rfl, hx, _, hl, hg⟩ := DataW.trod_array Try.underlying39 hf
  match xs, hl with
  | [y0, y1], _ =>
    have h0 : DataW.trod enc Try.prog w base spare held m 2 [c0] = some y0 := by simpa [Value.cells, ci64b] using hg 0 (by omega)
    have h1 : DataW.trod enc Try.prog w base spare held m 2 [c1] = some y1 := by simpa [Value.cells, ci64b] using hg 1 (by omega)
    obtain ⟨a, ea, rfl, wa⟩ := DataW.trod_int Try.underlying2 h0
    obtain ⟨b, eb, rfl, wb⟩ := DataW.trod_int Try.underlying2 h1
    simp at ea eb
    subst ea eb
    simp only [Prod.mk.injEq] at hx
    exact ⟨a, b, rfl, by simpa using hx.1, by simpa using hx.2, wa, wb⟩
theorem sar2 {a b : Int} (wa : (Lit.int .i64 a).wf = true) (wb : (Lit.int .i64 b).wf = true) :
    DataW.Trod enc Try.prog w base spare held 39 (.agg #[.int .i64 a, .int .i64 b]) (.agg [.lit (.int .i64 a), .lit (.int .i64 b)]) [] := by
  refine ⟨2, ?_⟩
  unfold DataW.trod
  rw [Try.underlying39]
  simp [Value.cells, car2, ci64b, List.range_succ, DataW.trod, Try.underlying2, wa, wb]
end
end Go.Proofs.Ytgcmmfclnialfaa
