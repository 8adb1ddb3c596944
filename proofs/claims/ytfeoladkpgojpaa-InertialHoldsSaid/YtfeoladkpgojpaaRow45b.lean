/- Points and pairs of points as arguments: opened and shut. No condition. -/
import Derived.Test.YtfeoladkpgojpaaRow45
namespace Go.Proofs.Ytfeoladkpgojpaa
open Go.ChangeShapes Go.WideShapes Go.ChangeAt Go.RowKit Go.Joins Go.Deep
set_option linter.unusedVariables false

section
variable {H : Type} {enc : TypeId × Value → H} {w : World} {base : Nat} {spare : Nat → Bool} {held : Bool}
theorem optt {r : Reach} {b0 : Nat} {v : Value} {d : DataW H} {p : List MemPlace} (hv : Value.okWide Try.prog w r b0 23 v) (h : DataW.Trod enc Try.prog w base spare held 23 v d p) :
    ∃ a b : Int, v = .agg #[.int .i64 a, .int .i64 b] ∧ d = .agg [.lit (.int .i64 a), .lit (.int .i64 b)] ∧ p = [] ∧ (Lit.int .i64 a).wf = true ∧ (Lit.int .i64 b).wf = true := by
  obtain ⟨cs, rfl, hsz⟩ := okWide_struct Try.underlying23 hv
  obtain ⟨c0, c1, rfl⟩ := array2 (hsz.trans cpt)
  obtain ⟨fuel, hf⟩ := h
  have h0' : DataW.trod enc Try.prog w base spare held fuel 23 [c0, c1] = some (d, p) := by simpa [Value.cells] using hf
  obtain ⟨a, b, rfl, rfl, hx, wa, wb⟩ := opt h0'
  simp only [Prod.mk.injEq] at hx
  exact ⟨a, b, rfl, hx.1, hx.2, wa, wb⟩
theorem sptt {a b : Int} (wa : (Lit.int .i64 a).wf = true) (wb : (Lit.int .i64 b).wf = true) :
    DataW.Trod enc Try.prog w base spare held 23 (.agg #[.int .i64 a, .int .i64 b]) (.agg [.lit (.int .i64 a), .lit (.int .i64 b)]) [] :=
  ⟨2, by simpa [Value.cells] using spt 0 wa wb⟩
theorem cpts : Try.prog.cellsOf 36 = 4 := by kernel_rfl
theorem okWide_array {P : Program} {r : Reach} {b0 n : Nat} {t e : TypeId} {v : Value} (ht : P.underlying t = some (.array n e)) (h : Value.okWide P w r b0 t v) : ∃ cs, v = .agg cs ∧ cs.size = P.cellsOf t := by
  simp only [Value.okWide, ht] at h
  obtain ⟨cs, h1, h2, _⟩ := h
  exact ⟨cs, h1, h2⟩
theorem opts {r : Reach} {b0 : Nat} {v : Value} {d : DataW H} {p : List MemPlace} (hv : Value.okWide Try.prog w r b0 36 v) (h : DataW.Trod enc Try.prog w base spare held 36 v d p) :
    ∃ a b c e : Int, v = .agg #[.int .i64 a, .int .i64 b, .int .i64 c, .int .i64 e] ∧ d = .agg [.agg [.lit (.int .i64 a), .lit (.int .i64 b)], .agg [.lit (.int .i64 c), .lit (.int .i64 e)]] ∧ p = [] ∧
      (Lit.int .i64 a).wf = true ∧ (Lit.int .i64 b).wf = true ∧ (Lit.int .i64 c).wf = true ∧ (Lit.int .i64 e).wf = true := by
  obtain ⟨cs, rfl, hsz⟩ := okWide_array Try.underlying36 hv
  obtain ⟨c0, c1, c2, c3, rfl⟩ := array4 (hsz.trans cpts)
  obtain ⟨fuel, hf⟩ := h
  obtain ⟨xs, m, rfl, hx, _, hl, hg⟩ := DataW.trod_array Try.underlying36 hf
  match xs, hl with
  | [y0, y1], _ =>
    have h0' : DataW.trod enc Try.prog w base spare held m 23 [c0, c1] = some y0 := by simpa [Value.cells, cpt] using hg 0 (by omega)
    have h1' : DataW.trod enc Try.prog w base spare held m 23 [c2, c3] = some y1 := by simpa [Value.cells, cpt] using hg 1 (by omega)
    obtain ⟨a, b, rfl, rfl, rfl, wa, wb⟩ := opt h0'
    obtain ⟨c, e, rfl, rfl, rfl, wc, we⟩ := opt h1'
    simp only [Prod.mk.injEq] at hx
    exact ⟨a, b, c, e, rfl, hx.1, by simpa using hx.2, wa, wb, wc, we⟩
theorem spts {a b c e : Int} (wa : (Lit.int .i64 a).wf = true) (wb : (Lit.int .i64 b).wf = true) (wc : (Lit.int .i64 c).wf = true) (we : (Lit.int .i64 e).wf = true) :
    DataW.Trod enc Try.prog w base spare held 36 (.agg #[.int .i64 a, .int .i64 b, .int .i64 c, .int .i64 e]) (.agg [.agg [.lit (.int .i64 a), .lit (.int .i64 b)], .agg [.lit (.int .i64 c), .lit (.int .i64 e)]]) [] := by
  refine ⟨3, ?_⟩
  have e0 := spt (enc := enc) (w := w) (base := base) (spare := spare) (held := held) 0 wa wb
  have e1 := spt (enc := enc) (w := w) (base := base) (spare := spare) (held := held) 0 wc we
  unfold DataW.trod
  rw [Try.underlying36]
  simp [Value.cells, cpts, cpt, List.range_succ, e0, e1]
end
end Go.Proofs.Ytfeoladkpgojpaa
