/- Vectors (arrays of three numbers) as arguments: opened and shut. No condition. -/
import Derived.Test.YtgcmmfclnialfaaRows
import Derived.ProofKit
import Derived.OpenShut
import Derived.ShutString
import Derived.Lib.SmallJoins
namespace Go.Proofs.Ytgcmmfclnialfaa
open Go.ChangeShapes Go.WideShapes Go.ChangeAt Go.RowKit Go.Joins
set_option linter.unusedVariables false

theorem cvec : Try.prog.cellsOf 26 = 3 := by kernel_rfl
theorem ci64 : Try.prog.cellsOf 2 = 1 := by kernel_rfl
theorem okWide_arr {P : Program} {r : Reach} {b0 n : Nat} {t e : TypeId} {v : Value} {w : World} (ht : P.underlying t = some (.array n e)) (h : Value.okWide P w r b0 t v) : ∃ cs, v = .agg cs ∧ cs.size = P.cellsOf t := by
  simp only [Value.okWide, ht] at h
  obtain ⟨cs, h1, h2, _⟩ := h
  exact ⟨cs, h1, h2⟩
theorem array3 {α : Type} {a : Array α} (h : a.size = 3) : ∃ x y z, a = #[x, y, z] := by
  rcases a with ⟨l⟩
  match l, h with
  | [x, y, z], _ => exact ⟨x, y, z, rfl⟩
section
variable {H : Type} {enc : TypeId × Value → H} {w : World} {base : Nat} {spare : Nat → Bool} {held : Bool}
theorem ovec {r : Reach} {b0 : Nat} {v : Value} {d : DataW H} {p : List MemPlace} (hv : Value.okWide Try.prog w r b0 26 v) (h : DataW.Trod enc Try.prog w base spare held 26 v d p) :
    ∃ a b c : Int, v = .agg #[.int .i64 a, .int .i64 b, .int .i64 c] ∧ d = .agg [.lit (.int .i64 a), .lit (.int .i64 b), .lit (.int .i64 c)] ∧ p = [] ∧
      (Lit.int .i64 a).wf = true ∧ (Lit.int .i64 b).wf = true ∧ (Lit.int .i64 c).wf = true := by
  obtain ⟨cs, rfl, hsz⟩ := okWide_arr Try.underlying26 hv
  obtain ⟨c0, c1, c2, rfl⟩ := array3 (hsz.trans cvec)
  obtain ⟨fuel, hf⟩ := h
  obtain ⟨xs, m, rfl, hx, _, hl, hg⟩ := DataW.trod_array Try.underlying26 hf
  match xs, hl with
  | [y0, y1, y2], _ =>
    have h0 : DataW.trod enc Try.prog w base spare held m 2 [c0] = some y0 := by simpa [Value.cells, ci64] using hg 0 (by omega)
    have h1 : DataW.trod enc Try.prog w base spare held m 2 [c1] = some y1 := by simpa [Value.cells, ci64] using hg 1 (by omega)
    have h2 : DataW.trod enc Try.prog w base spare held m 2 [c2] = some y2 := by simpa [Value.cells, ci64] using hg 2 (by omega)
    obtain ⟨a, ea, rfl, wa⟩ := DataW.trod_int Try.underlying2 h0
    obtain ⟨b, eb, rfl, wb⟩ := DataW.trod_int Try.underlying2 h1
    obtain ⟨c, ec, rfl, wc⟩ := DataW.trod_int Try.underlying2 h2
    simp at ea eb ec
    subst ea eb ec
    simp only [Prod.mk.injEq] at hx
    exact ⟨a, b, c, rfl, by simpa using hx.1, by simpa using hx.2, wa, wb, wc⟩
theorem svec {a b c : Int} (wa : (Lit.int .i64 a).wf = true) (wb : (Lit.int .i64 b).wf = true) (wc : (Lit.int .i64 c).wf = true) :
    DataW.Trod enc Try.prog w base spare held 26 (.agg #[.int .i64 a, .int .i64 b, .int .i64 c]) (.agg [.lit (.int .i64 a), .lit (.int .i64 b), .lit (.int .i64 c)]) [] := by
  refine ⟨2, ?_⟩
  unfold DataW.trod
  rw [Try.underlying26]
  simp [Value.cells, cvec, ci64, List.range_succ, DataW.trod, Try.underlying2, wa, wb, wc]
end
end Go.Proofs.Ytgcmmfclnialfaa
