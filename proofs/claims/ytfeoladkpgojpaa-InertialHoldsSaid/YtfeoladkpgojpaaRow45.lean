/- Boxes, velocities with drift and time, and pairs of points as arguments: opened and shut. No condition. -/
import Derived.Test.YtfeoladkpgojpaaBox
import Derived.ProofKit
import Derived.OpenShut
import Derived.Deep.Strs
import Derived.Lib.SmallJoins
namespace Go.Proofs.Ytfeoladkpgojpaa
open Go.ChangeShapes Go.WideShapes Go.ChangeAt Go.RowKit Go.Joins Go.Deep
set_option linter.unusedVariables false

section
variable {H : Type} {enc : TypeId × Value → H} {w : World} {base : Nat} {spare : Nat → Bool} {held : Bool}
theorem ci64 : Try.prog.cellsOf 2 = 1 := by kernel_rfl
theorem cpt : Try.prog.cellsOf 23 = 2 := by kernel_rfl
theorem cbox : Try.prog.cellsOf 25 = 4 := by kernel_rfl
theorem opt {n : Nat} {c0 c1 : Value} {x : DataW H × List MemPlace} (h : DataW.trod enc Try.prog w base spare held n 23 [c0, c1] = some x) :
    ∃ a b : Int, c0 = .int .i64 a ∧ c1 = .int .i64 b ∧ x = (.agg [.lit (.int .i64 a), .lit (.int .i64 b)], []) ∧ (Lit.int .i64 a).wf = true ∧ (Lit.int .i64 b).wf = true := by
  obtain ⟨y0, y1, m, rfl, _, h0, h1⟩ := trod_struct2 Try.underlying23 h
  have h0' : DataW.trod enc Try.prog w base spare held m 2 [c0] = some y0 := by simpa [ci64] using h0
  have h1' : DataW.trod enc Try.prog w base spare held m 2 [c1] = some y1 := by simpa [ci64] using h1
  obtain ⟨a, ea, rfl, wa⟩ := DataW.trod_int Try.underlying2 h0'
  obtain ⟨b, eb, rfl, wb⟩ := DataW.trod_int Try.underlying2 h1'
  simp at ea eb
  exact ⟨a, b, ea, eb, rfl, wa, wb⟩
theorem oint {n : Nat} {c : Value} {x : DataW H × List MemPlace} (h : DataW.trod enc Try.prog w base spare held n 2 [c] = some x) :
    ∃ a : Int, c = .int .i64 a ∧ x = (.lit (.int .i64 a), []) ∧ (Lit.int .i64 a).wf = true := by
  obtain ⟨a, ea, rfl, wa⟩ := DataW.trod_int Try.underlying2 h
  simp at ea
  exact ⟨a, ea, rfl, wa⟩
theorem sint {a : Int} (n : Nat) (wa : (Lit.int .i64 a).wf = true) : DataW.trod enc Try.prog w base spare held (n + 1) 2 [.int .i64 a] = some (.lit (.int .i64 a), []) := by
  simp [DataW.trod, Try.underlying2, wa]
theorem spt {a b : Int} (n : Nat) (wa : (Lit.int .i64 a).wf = true) (wb : (Lit.int .i64 b).wf = true) :
    DataW.trod enc Try.prog w base spare held (n + 2) 23 [.int .i64 a, .int .i64 b] = some (.agg [.lit (.int .i64 a), .lit (.int .i64 b)], []) := by
  have := trod_struct2_mk (enc := enc) (P := Try.prog) (w := w) (base := base) (spare := spare) (held := held) (n := n + 1) (cs := [.int .i64 a, .int .i64 b]) (y0 := (.lit (.int .i64 a), [])) (y1 := (.lit (.int .i64 b), [])) Try.underlying23 (by simp [cpt]) (by simpa [ci64] using sint n wa) (by simpa [ci64] using sint n wb)
  simpa using this
theorem obox {r : Reach} {b0 : Nat} {v : Value} {d : DataW H} {p : List MemPlace} (hv : Value.okWide Try.prog w r b0 25 v) (h : DataW.Trod enc Try.prog w base spare held 25 v d p) :
    ∃ a b c e : Int, v = .agg #[.int .i64 a, .int .i64 b, .int .i64 c, .int .i64 e] ∧ d = .agg [.agg [.lit (.int .i64 a), .lit (.int .i64 b)], .lit (.int .i64 c), .lit (.int .i64 e)] ∧ p = [] ∧
      (Lit.int .i64 a).wf = true ∧ (Lit.int .i64 b).wf = true ∧ (Lit.int .i64 c).wf = true ∧ (Lit.int .i64 e).wf = true := by
  obtain ⟨cs, rfl, hsz⟩ := okWide_struct Try.underlying25 hv
  obtain ⟨c0, c1, c2, c3, rfl⟩ := array4 (hsz.trans cbox)
  obtain ⟨fuel, hf⟩ := h
  obtain ⟨y0, y1, y2, n, hx, _, h0, h1, h2⟩ := trod_struct3 Try.underlying25 hf
  have h0' : DataW.trod enc Try.prog w base spare held n 23 [c0, c1] = some y0 := by simpa [Value.cells, cpt] using h0
  have h1' : DataW.trod enc Try.prog w base spare held n 2 [c2] = some y1 := by simpa [Value.cells, ci64] using h1
  have h2' : DataW.trod enc Try.prog w base spare held n 2 [c3] = some y2 := by simpa [Value.cells, ci64] using h2
  obtain ⟨a, b, rfl, rfl, rfl, wa, wb⟩ := opt h0'
  obtain ⟨c, rfl, rfl, wc⟩ := oint h1'
  obtain ⟨e, rfl, rfl, we⟩ := oint h2'
  simp only [Prod.mk.injEq] at hx
  exact ⟨a, b, c, e, rfl, hx.1, by simpa using hx.2, wa, wb, wc, we⟩
theorem sbox {a b c e : Int} (wa : (Lit.int .i64 a).wf = true) (wb : (Lit.int .i64 b).wf = true) (wc : (Lit.int .i64 c).wf = true) (we : (Lit.int .i64 e).wf = true) :
    DataW.Trod enc Try.prog w base spare held 25 (.agg #[.int .i64 a, .int .i64 b, .int .i64 c, .int .i64 e]) (.agg [.agg [.lit (.int .i64 a), .lit (.int .i64 b)], .lit (.int .i64 c), .lit (.int .i64 e)]) [] := by
  have ts := trod_struct3_mk (enc := enc) (P := Try.prog) (w := w) (base := base) (spare := spare) (held := held) (n := 2) (cs := [.int .i64 a, .int .i64 b, .int .i64 c, .int .i64 e]) (y0 := (.agg [.lit (.int .i64 a), .lit (.int .i64 b)], [])) (y1 := (.lit (.int .i64 c), [])) (y2 := (.lit (.int .i64 e), [])) Try.underlying25 (by simp [cbox]) (by simpa [cpt] using spt 0 wa wb) (by simpa [ci64] using sint 1 wc) (by simpa [ci64] using sint 1 we)
  exact ⟨_, by simpa [Value.cells] using ts⟩
theorem cvel : Try.prog.cellsOf 27 = 2 := by kernel_rfl
theorem cmove : Try.prog.cellsOf 29 = 4 := by kernel_rfl
theorem ovel {n : Nat} {c0 c1 : Value} {x : DataW H × List MemPlace} (h : DataW.trod enc Try.prog w base spare held n 27 [c0, c1] = some x) :
    ∃ a b : Int, c0 = .int .i64 a ∧ c1 = .int .i64 b ∧ x = (.agg [.lit (.int .i64 a), .lit (.int .i64 b)], []) ∧ (Lit.int .i64 a).wf = true ∧ (Lit.int .i64 b).wf = true := by
  obtain ⟨y0, y1, m, rfl, _, h0, h1⟩ := trod_struct2 Try.underlying27 h
  have h0' : DataW.trod enc Try.prog w base spare held m 2 [c0] = some y0 := by simpa [ci64] using h0
  have h1' : DataW.trod enc Try.prog w base spare held m 2 [c1] = some y1 := by simpa [ci64] using h1
  obtain ⟨a, ea, rfl, wa⟩ := DataW.trod_int Try.underlying2 h0'
  obtain ⟨b, eb, rfl, wb⟩ := DataW.trod_int Try.underlying2 h1'
  simp at ea eb
  exact ⟨a, b, ea, eb, rfl, wa, wb⟩
theorem svel {a b : Int} (n : Nat) (wa : (Lit.int .i64 a).wf = true) (wb : (Lit.int .i64 b).wf = true) :
    DataW.trod enc Try.prog w base spare held (n + 2) 27 [.int .i64 a, .int .i64 b] = some (.agg [.lit (.int .i64 a), .lit (.int .i64 b)], []) := by
  have := trod_struct2_mk (enc := enc) (P := Try.prog) (w := w) (base := base) (spare := spare) (held := held) (n := n + 1) (cs := [.int .i64 a, .int .i64 b]) (y0 := (.lit (.int .i64 a), [])) (y1 := (.lit (.int .i64 b), [])) Try.underlying27 (by simp [cvel]) (by simpa [ci64] using sint n wa) (by simpa [ci64] using sint n wb)
  simpa using this
theorem omove {r : Reach} {b0 : Nat} {v : Value} {d : DataW H} {p : List MemPlace} (hv : Value.okWide Try.prog w r b0 29 v) (h : DataW.Trod enc Try.prog w base spare held 29 v d p) :
    ∃ a b c e : Int, v = .agg #[.int .i64 a, .int .i64 b, .int .i64 c, .int .i64 e] ∧ d = .agg [.agg [.lit (.int .i64 a), .lit (.int .i64 b)], .lit (.int .i64 c), .lit (.int .i64 e)] ∧ p = [] ∧
      (Lit.int .i64 a).wf = true ∧ (Lit.int .i64 b).wf = true ∧ (Lit.int .i64 c).wf = true ∧ (Lit.int .i64 e).wf = true := by
  obtain ⟨cs, rfl, hsz⟩ := okWide_struct Try.underlying29 hv
  obtain ⟨c0, c1, c2, c3, rfl⟩ := array4 (hsz.trans cmove)
  obtain ⟨fuel, hf⟩ := h
  obtain ⟨y0, y1, y2, n, hx, _, h0, h1, h2⟩ := trod_struct3 Try.underlying29 hf
  have h0' : DataW.trod enc Try.prog w base spare held n 27 [c0, c1] = some y0 := by simpa [Value.cells, cvel] using h0
  have h1' : DataW.trod enc Try.prog w base spare held n 2 [c2] = some y1 := by simpa [Value.cells, ci64] using h1
  have h2' : DataW.trod enc Try.prog w base spare held n 2 [c3] = some y2 := by simpa [Value.cells, ci64] using h2
  obtain ⟨a, b, rfl, rfl, rfl, wa, wb⟩ := ovel h0'
  obtain ⟨c, rfl, rfl, wc⟩ := oint h1'
  obtain ⟨e, rfl, rfl, we⟩ := oint h2'
  simp only [Prod.mk.injEq] at hx
  exact ⟨a, b, c, e, rfl, hx.1, by simpa using hx.2, wa, wb, wc, we⟩
theorem smove {a b c e : Int} (wa : (Lit.int .i64 a).wf = true) (wb : (Lit.int .i64 b).wf = true) (wc : (Lit.int .i64 c).wf = true) (we : (Lit.int .i64 e).wf = true) :
    DataW.Trod enc Try.prog w base spare held 29 (.agg #[.int .i64 a, .int .i64 b, .int .i64 c, .int .i64 e]) (.agg [.agg [.lit (.int .i64 a), .lit (.int .i64 b)], .lit (.int .i64 c), .lit (.int .i64 e)]) [] := by
  have ts := trod_struct3_mk (enc := enc) (P := Try.prog) (w := w) (base := base) (spare := spare) (held := held) (n := 2) (cs := [.int .i64 a, .int .i64 b, .int .i64 c, .int .i64 e]) (y0 := (.agg [.lit (.int .i64 a), .lit (.int .i64 b)], [])) (y1 := (.lit (.int .i64 c), [])) (y2 := (.lit (.int .i64 e), [])) Try.underlying29 (by simp [cmove]) (by simpa [cvel] using svel 0 wa wb) (by simpa [ci64] using sint 1 wc) (by simpa [ci64] using sint 1 we)
  exact ⟨_, by simpa [Value.cells] using ts⟩
end
end Go.Proofs.Ytfeoladkpgojpaa
