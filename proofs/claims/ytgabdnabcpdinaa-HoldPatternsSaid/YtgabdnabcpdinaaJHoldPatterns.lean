/- The arguments of a pattern: opened and shut. No condition. Patterns: the laws' walks. HoldPatterns: the walk. -/
import Derived.Test.YtgabdnabcpdinaaSphA
import Derived.ProofKit
import Derived.OpenShut
import Derived.Deep.Strs
import Derived.Lib.SmallJoins
import Derived.Test.YtgabdnabcpdinaaHldL
import Derived.Test.YtgabdnabcpdinaaHldX
import Derived.Test.YtgabdnabcpdinaaHldY
import Derived.Test.YtgabdnabcpdinaaAwake26
namespace Go.Proofs.Ytgabdnabcpdinaa
open Go.ChangeShapes Go.WideShapes Go.ChangeAt Go.RowKit Go.Joins Go.Deep
set_option linter.unusedVariables false
theorem array6 {α : Type} {cs : Array α} (h : cs.size = 6) : ∃ c0 c1 c2 c3 c4 c5, cs = #[c0, c1, c2, c3, c4, c5] := by
  obtain ⟨l⟩ := cs
  match l, h with
  | [c0, c1, c2, c3, c4, c5], _ => exact ⟨c0, c1, c2, c3, c4, c5, rfl⟩

section
variable {H : Type} {enc : TypeId × Value → H} {w : World} {base : Nat} {spare : Nat → Bool} {held : Bool}
theorem trod_struct5 {P : Program} {t : TypeId} {f0 f1 f2 f3 f4 : Field} {fuel : Nat} {cs : List Value} {x : DataW H × List MemPlace} (ht : P.underlying t = some (.struct #[f0, f1, f2, f3, f4])) (h : DataW.trod enc P w base spare held fuel t cs = some x) :
    ∃ y0 y1 y2 y3 y4 n, x = (.agg [y0.1, y1.1, y2.1, y3.1, y4.1], y0.2 ++ (y1.2 ++ (y2.2 ++ (y3.2 ++ y4.2)))) ∧ cs.length = P.cellsOf t ∧ DataW.trod enc P w base spare held n f0.type ((cs.drop f0.offset).take (P.cellsOf f0.type)) = some y0 ∧
      DataW.trod enc P w base spare held n f1.type ((cs.drop f1.offset).take (P.cellsOf f1.type)) = some y1 ∧ DataW.trod enc P w base spare held n f2.type ((cs.drop f2.offset).take (P.cellsOf f2.type)) = some y2 ∧
      DataW.trod enc P w base spare held n f3.type ((cs.drop f3.offset).take (P.cellsOf f3.type)) = some y3 ∧ DataW.trod enc P w base spare held n f4.type ((cs.drop f4.offset).take (P.cellsOf f4.type)) = some y4 := by
  obtain ⟨xs, n, _, rfl, hl, hlen, hf⟩ := DataW.trod_struct ht h
  match xs, hlen with
  | [y0, y1, y2, y3, y4], _ => exact ⟨y0, y1, y2, y3, y4, n, by simp, hl, by simpa using hf 0 f0 rfl, by simpa using hf 1 f1 rfl, by simpa using hf 2 f2 rfl, by simpa using hf 3 f3 rfl, by simpa using hf 4 f4 rfl⟩
theorem trod_struct5_mk {P : Program} {t : TypeId} {f0 f1 f2 f3 f4 : Field} {n : Nat} {cs : List Value} {y0 y1 y2 y3 y4 : DataW H × List MemPlace} (ht : P.underlying t = some (.struct #[f0, f1, f2, f3, f4])) (hl : cs.length = P.cellsOf t)
    (h0 : DataW.trod enc P w base spare held n f0.type ((cs.drop f0.offset).take (P.cellsOf f0.type)) = some y0) (h1 : DataW.trod enc P w base spare held n f1.type ((cs.drop f1.offset).take (P.cellsOf f1.type)) = some y1)
    (h2 : DataW.trod enc P w base spare held n f2.type ((cs.drop f2.offset).take (P.cellsOf f2.type)) = some y2) (h3 : DataW.trod enc P w base spare held n f3.type ((cs.drop f3.offset).take (P.cellsOf f3.type)) = some y3)
    (h4 : DataW.trod enc P w base spare held n f4.type ((cs.drop f4.offset).take (P.cellsOf f4.type)) = some y4) :
    DataW.trod enc P w base spare held (n + 1) t cs = some (.agg [y0.1, y1.1, y2.1, y3.1, y4.1], y0.2 ++ (y1.2 ++ (y2.2 ++ (y3.2 ++ y4.2)))) := by
  have := trod_struct_mk (enc := enc) (w := w) (base := base) (spare := spare) (held := held) (n := n) (xs := [y0, y1, y2, y3, y4]) ht hl (by simp [h0, h1, h2, h3, h4])
  simpa using this
theorem ci64 : Try.prog.cellsOf 2 = 1 := by kernel_rfl
theorem cu8 : Try.prog.cellsOf 5 = 1 := by kernel_rfl
theorem cpt : Try.prog.cellsOf 30 = 2 := by kernel_rfl
theorem cargs : Try.prog.cellsOf 32 = 6 := by kernel_rfl
theorem oint {n : Nat} {c : Value} {x : DataW H × List MemPlace} (h : DataW.trod enc Try.prog w base spare held n 2 [c] = some x) :
    ∃ a : Int, c = .int .i64 a ∧ x = (.lit (.int .i64 a), []) ∧ (Lit.int .i64 a).wf = true := by
  obtain ⟨a, ea, rfl, wa⟩ := DataW.trod_int Try.underlying2 h
  simp at ea
  exact ⟨a, ea, rfl, wa⟩
theorem ou8 {n : Nat} {c : Value} {x : DataW H × List MemPlace} (h : DataW.trod enc Try.prog w base spare held n 5 [c] = some x) :
    ∃ a : Int, c = .int .u8 a ∧ x = (.lit (.int .u8 a), []) ∧ (Lit.int .u8 a).wf = true := by
  obtain ⟨a, ea, rfl, wa⟩ := DataW.trod_int Try.underlying5 h
  simp at ea
  exact ⟨a, ea, rfl, wa⟩
theorem opt {n : Nat} {c0 c1 : Value} {x : DataW H × List MemPlace} (h : DataW.trod enc Try.prog w base spare held n 30 [c0, c1] = some x) :
    ∃ a b : Int, c0 = .int .i64 a ∧ c1 = .int .i64 b ∧ x = (.agg [.lit (.int .i64 a), .lit (.int .i64 b)], []) ∧ (Lit.int .i64 a).wf = true ∧ (Lit.int .i64 b).wf = true := by
  obtain ⟨y0, y1, m, rfl, _, h0, h1⟩ := trod_struct2 Try.underlying30 h
  have h0' : DataW.trod enc Try.prog w base spare held m 2 [c0] = some y0 := by simpa [ci64] using h0
  have h1' : DataW.trod enc Try.prog w base spare held m 2 [c1] = some y1 := by simpa [ci64] using h1
  obtain ⟨a, rfl, rfl, wa⟩ := oint h0'
  obtain ⟨b, rfl, rfl, wb⟩ := oint h1'
  exact ⟨a, b, rfl, rfl, rfl, wa, wb⟩
theorem sint {a : Int} (n : Nat) (wa : (Lit.int .i64 a).wf = true) : DataW.trod enc Try.prog w base spare held (n + 1) 2 [.int .i64 a] = some (.lit (.int .i64 a), []) :=
  trod_int_mk n Try.underlying2 wa
theorem su8 {a : Int} (n : Nat) (wa : (Lit.int .u8 a).wf = true) : DataW.trod enc Try.prog w base spare held (n + 1) 5 [.int .u8 a] = some (.lit (.int .u8 a), []) :=
  trod_int_mk n Try.underlying5 wa
theorem spt {a b : Int} (n : Nat) (wa : (Lit.int .i64 a).wf = true) (wb : (Lit.int .i64 b).wf = true) :
    DataW.trod enc Try.prog w base spare held (n + 2) 30 [.int .i64 a, .int .i64 b] = some (.agg [.lit (.int .i64 a), .lit (.int .i64 b)], []) := by
  have := trod_struct2_mk (enc := enc) (P := Try.prog) (w := w) (base := base) (spare := spare) (held := held) (n := n + 1) (cs := [.int .i64 a, .int .i64 b]) (y0 := (.lit (.int .i64 a), [])) (y1 := (.lit (.int .i64 b), [])) Try.underlying30 (by simp [cpt]) (by simpa [ci64] using sint n wa) (by simpa [ci64] using sint n wb)
  simpa using this
theorem oargs {r : Reach} {b0 : Nat} {v : Value} {d : DataW H} {p : List MemPlace} (hv : Value.okWide Try.prog w r b0 32 v) (h : DataW.Trod enc Try.prog w base spare held 32 v d p) :
    ∃ a b c e f g : Int, v = .agg #[.int .i64 a, .int .i64 b, .int .i64 c, .int .u8 e, .int .i64 f, .int .i64 g] ∧ d = .agg [.agg [.lit (.int .i64 a), .lit (.int .i64 b)], .lit (.int .i64 c), .lit (.int .u8 e), .lit (.int .i64 f), .lit (.int .i64 g)] ∧ p = [] ∧
      (Lit.int .i64 a).wf = true ∧ (Lit.int .i64 b).wf = true ∧ (Lit.int .i64 c).wf = true ∧ (Lit.int .u8 e).wf = true ∧ (Lit.int .i64 f).wf = true ∧ (Lit.int .i64 g).wf = true := by
  obtain ⟨cs, rfl, hsz⟩ := okWide_struct Try.underlying32 hv
  obtain ⟨c0, c1, c2, c3, c4, c5, rfl⟩ := array6 (hsz.trans cargs)
  obtain ⟨fuel, hf⟩ := h
  obtain ⟨y0, y1, y2, y3, y4, n, hx, _, h0, h1, h2, h3, h4⟩ := trod_struct5 Try.underlying32 hf
  have h0' : DataW.trod enc Try.prog w base spare held n 30 [c0, c1] = some y0 := by simpa [Value.cells, cpt] using h0
  have h1' : DataW.trod enc Try.prog w base spare held n 2 [c2] = some y1 := by simpa [Value.cells, ci64] using h1
  have h2' : DataW.trod enc Try.prog w base spare held n 5 [c3] = some y2 := by simpa [Value.cells, cu8] using h2
  have h3' : DataW.trod enc Try.prog w base spare held n 2 [c4] = some y3 := by simpa [Value.cells, ci64] using h3
  have h4' : DataW.trod enc Try.prog w base spare held n 2 [c5] = some y4 := by simpa [Value.cells, ci64] using h4
  obtain ⟨a, b, rfl, rfl, rfl, wa, wb⟩ := opt h0'
  obtain ⟨c, rfl, rfl, wc⟩ := oint h1'
  obtain ⟨e, rfl, rfl, we⟩ := ou8 h2'
  obtain ⟨f, rfl, rfl, wf⟩ := oint h3'
  obtain ⟨g, rfl, rfl, wg⟩ := oint h4'
  simp only [Prod.mk.injEq] at hx
  exact ⟨a, b, c, e, f, g, rfl, hx.1, by simpa using hx.2, wa, wb, wc, we, wf, wg⟩
theorem sargs {a b c e f g : Int} (wa : (Lit.int .i64 a).wf = true) (wb : (Lit.int .i64 b).wf = true) (wc : (Lit.int .i64 c).wf = true) (we : (Lit.int .u8 e).wf = true) (wf : (Lit.int .i64 f).wf = true) (wg : (Lit.int .i64 g).wf = true) :
    DataW.Trod enc Try.prog w base spare held 32 (.agg #[.int .i64 a, .int .i64 b, .int .i64 c, .int .u8 e, .int .i64 f, .int .i64 g]) (.agg [.agg [.lit (.int .i64 a), .lit (.int .i64 b)], .lit (.int .i64 c), .lit (.int .u8 e), .lit (.int .i64 f), .lit (.int .i64 g)]) [] := by
  have ts := trod_struct5_mk (enc := enc) (P := Try.prog) (w := w) (base := base) (spare := spare) (held := held) (n := 2) (cs := [.int .i64 a, .int .i64 b, .int .i64 c, .int .u8 e, .int .i64 f, .int .i64 g]) (y0 := (.agg [.lit (.int .i64 a), .lit (.int .i64 b)], [])) (y1 := (.lit (.int .i64 c), [])) (y2 := (.lit (.int .u8 e), [])) (y3 := (.lit (.int .i64 f), [])) (y4 := (.lit (.int .i64 g), [])) Try.underlying32 (by simp [cargs]) (by simpa [cpt] using spt 0 wa wb) (by simpa [ci64] using sint 1 wc) (by simpa [cu8] using su8 1 we) (by simpa [ci64] using sint 1 wf) (by simpa [ci64] using sint 1 wg)
  exact ⟨_, by simpa [Value.cells] using ts⟩
end
open Go.RowKit Go.Joins Fdk
set_option maxRecDepth 4000
set_option linter.unusedVariables false
/-- a call that returns a list of elements that it has made. -/
abbrev MadeEls (f : FuncId) (args : Array Value) (n : Nat) (x : Nat → El) : Prop :=
  ∀ w, Calls Try.prog f args w fun e w' => (∃ bb, w.heap.size ≤ bb ∧ e = .returned (.tuple #[.slice (some ⟨bb, 0, none⟩) n n, .int .i64 0]) ∧ ElsAt w' bb n x) ∧ Below w.heap.size w w'
abbrev NoEls (f : FuncId) (args : Array Value) (E : Int) : Prop :=
  ∀ w, Calls Try.prog f args w fun e w' => e = .returned (.tuple #[.slice none 0 0, .int .i64 E]) ∧ Below w.heap.size w w'
abbrev Wakes : Prop := ∀ w, Calls Try.prog 10 #[] w fun e w' => e = .returned (.bool true) ∧ Below w.heap.size w w'
/-- the arguments' block. -/
structure A6 (w : World) (b : Nat) (x0 x1 x2 x3 x4 x5 : Value) : Prop where
  c0 : w.cell? ⟨b, 0, none⟩ = some x0
  c1 : w.cell? ⟨b, 1, none⟩ = some x1
  c2 : w.cell? ⟨b, 2, none⟩ = some x2
  c3 : w.cell? ⟨b, 3, none⟩ = some x3
  c4 : w.cell? ⟨b, 4, none⟩ = some x4
  c5 : w.cell? ⟨b, 5, none⟩ = some x5
  lt : b < w.heap.size
theorem a6_new (w : World) (x0 x1 x2 x3 x4 x5 : Value) (t : TypeId) : A6 (w.alloc (.cells #[x0, x1, x2, x3, x4, x5] t)) w.heap.size x0 x1 x2 x3 x4 x5 := by
  have e : (w.alloc (.cells #[x0, x1, x2, x3, x4, x5] t)).heap[w.heap.size]? = some (.cells #[x0, x1, x2, x3, x4, x5] t) := by show (w.heap.push _)[w.heap.size]? = _; simp
  exact ⟨by simp only [World.cell?, e]; rfl, by simp only [World.cell?, e]; rfl, by simp only [World.cell?, e]; rfl, by simp only [World.cell?, e]; rfl, by simp only [World.cell?, e]; rfl, by simp only [World.cell?, e]; rfl, by show _ < (w.heap.push _).size; simp⟩
theorem A6.next {w w1 : World} {b : Nat} {x0 x1 x2 x3 x4 x5 : Value} (h : A6 w b x0 x1 x2 x3 x4 x5) (hb : Below w.heap.size w w1) : A6 w1 b x0 x1 x2 x3 x4 x5 :=
  ⟨(hb.cell (p := ⟨b, 0, none⟩) h.lt).trans h.c0, (hb.cell (p := ⟨b, 1, none⟩) h.lt).trans h.c1, (hb.cell (p := ⟨b, 2, none⟩) h.lt).trans h.c2, (hb.cell (p := ⟨b, 3, none⟩) h.lt).trans h.c3, (hb.cell (p := ⟨b, 4, none⟩) h.lt).trans h.c4, (hb.cell (p := ⟨b, 5, none⟩) h.lt).trans h.c5, Nat.lt_of_lt_of_le h.lt hb.size⟩
theorem patterns_ok (a b i k l r : Int) (x : Nat → El) (HA : Hid Wakes)
    (HP : Hid (MadeEls 14 #[ptV a b, .int .i64 i, .int .u8 k, .int .i64 l, .int .i64 r] 4 x))
    (HR : Hid (MadeEls 15 #[ptV a b, .int .i64 i, .int .u8 k, .int .i64 l, .int .i64 r] 4 x)) (w : World) :
    Calls Try.prog 6 #[.agg #[.int .i64 a, .int .i64 b, .int .i64 i, .int .u8 k, .int .i64 l, .int .i64 r]] w fun e w' => e = .returned (.bool true) ∧ Below w.heap.size w w' := by
  go_enter Try.func6, Try.ntmps6
  go_wp2_with fail
  refine (HA.out _).mono ?_
  rintro e w1 ⟨rfl, hb⟩
  have S := (a6_new w (.int .i64 a) (.int .i64 b) (.int .i64 i) (.int .u8 k) (.int .i64 l) (.int .i64 r) 32).next hb
  have B := Lib.hid (thn (below_alloc1 w _) hb)
  clear hb
  obtain ⟨s0, s1, s2, s3, s4, s5, sl⟩ := id S
  go_wp2_with fail
  refine (HP.out _).mono ?_
  rintro e w2 ⟨⟨b1, hb1, rfl, E1⟩, hb⟩
  have HE1 := Lib.hid E1
  clear E1 hb1
  replace S := S.next hb
  replace B := Lib.hid (thn B.out hb)
  clear hb s0 s1 s2 s3 s4 s5 sl
  obtain ⟨s0, s1, s2, s3, s4, s5, sl⟩ := id S
  go_wp2_with fail
  refine (HR.out _).mono ?_
  rintro e w3 ⟨⟨b2, hb2, rfl, E2⟩, hb⟩
  have E1 := HE1.out.next hb
  have HS := Lib.hid (same_some b1 b2 4 4 4 x w3 E1 E2 (by omega))
  replace HE1 := Lib.hid E1
  replace S := S.next hb
  replace B := Lib.hid (thn B.out hb)
  clear hb hb2 s0 s1 s2 s3 s4 s5 sl E1 E2
  go_wp2_with fail
  refine HS.out.mono ?_
  rintro e w4 ⟨rfl, hd⟩
  replace B := Lib.hid (thn B.out (hd.below _))
  replace S := S.next (hd.below _)
  replace HE1 := Lib.hid (HE1.out.next (hd.below _))
  clear hd HS
  obtain ⟨s0, s1, s2, s3, s4, s5, sl⟩ := id S
  go_wp2_with fail
  go_ret
  exact ⟨rfl, B.out⟩
theorem patterns_no (a b i k l r E : Int) (HA : Hid Wakes)
    (HE : (E != 0) = true)
    (HP : Hid (NoEls 14 #[ptV a b, .int .i64 i, .int .u8 k, .int .i64 l, .int .i64 r] E))
    (HR : Hid (NoEls 15 #[ptV a b, .int .i64 i, .int .u8 k, .int .i64 l, .int .i64 r] E)) (w : World) :
    Calls Try.prog 6 #[.agg #[.int .i64 a, .int .i64 b, .int .i64 i, .int .u8 k, .int .i64 l, .int .i64 r]] w fun e w' => e = .returned (.bool true) ∧ Below w.heap.size w w' := by
  go_enter Try.func6, Try.ntmps6
  go_wp2_with fail
  refine (HA.out _).mono ?_
  rintro e w1 ⟨rfl, hb⟩
  have S := (a6_new w (.int .i64 a) (.int .i64 b) (.int .i64 i) (.int .u8 k) (.int .i64 l) (.int .i64 r) 32).next hb
  have B := Lib.hid (thn (below_alloc1 w _) hb)
  clear hb
  obtain ⟨s0, s1, s2, s3, s4, s5, sl⟩ := id S
  go_wp2_with fail
  refine (HP.out _).mono ?_
  rintro e w2 ⟨rfl, hb⟩
  replace S := S.next hb
  replace B := Lib.hid (thn B.out hb)
  clear hb s0 s1 s2 s3 s4 s5 sl
  obtain ⟨s0, s1, s2, s3, s4, s5, sl⟩ := id S
  go_wp2_with fail
  refine (HR.out _).mono ?_
  rintro e w3 ⟨rfl, hb⟩
  have HS := Lib.hid (same_none w3)
  replace S := S.next hb
  replace B := Lib.hid (thn B.out hb)
  clear hb s0 s1 s2 s3 s4 s5 sl
  go_wp2_with fail
  refine HS.out.mono ?_
  rintro e w4 ⟨rfl, hd⟩
  replace B := Lib.hid (thn B.out (hd.below _))
  replace S := S.next (hd.below _)
  clear hd HS
  obtain ⟨s0, s1, s2, s3, s4, s5, sl⟩ := id S
  go_wp2_with fail
  go_ret
  exact ⟨ret_bool (by simp), B.out⟩
theorem closes_ok (a b i k l r : Int) (x : Nat → El) (HA : Hid Wakes)
    (hl : (x 0).l = (x 2).l)
    (HP : Hid (MadeEls 14 #[ptV a b, .int .i64 i, .int .u8 k, .int .i64 l, .int .i64 r] 4 x))
    (HC : Hid (∀ bb ca w, ElsAt w bb 4 x → Calls Try.prog 17 #[.slice (some ⟨bb, 0, none⟩) 4 ca, ptV a b] w fun e w' => e = .returned (.bool true) ∧ Below w.heap.size w w')) (w : World) :
    Calls Try.prog 7 #[.agg #[.int .i64 a, .int .i64 b, .int .i64 i, .int .u8 k, .int .i64 l, .int .i64 r]] w fun e w' => e = .returned (.bool true) ∧ Below w.heap.size w w' := by
  go_enter Try.func7, Try.ntmps7
  go_wp2_with fail
  refine (HA.out _).mono ?_
  rintro e w1 ⟨rfl, hb⟩
  have S := (a6_new w (.int .i64 a) (.int .i64 b) (.int .i64 i) (.int .u8 k) (.int .i64 l) (.int .i64 r) 32).next hb
  have B := Lib.hid (thn (below_alloc1 w _) hb)
  clear hb
  obtain ⟨s0, s1, s2, s3, s4, s5, sl⟩ := id S
  go_wp2_with fail
  refine (HP.out _).mono ?_
  rintro e w2 ⟨⟨b1, hb1, rfl, E1⟩, hb⟩
  have HE1 := Lib.hid E1
  clear E1 hb1
  replace S := S.next hb
  replace B := Lib.hid (thn B.out hb)
  clear hb s0 s1 s2 s3 s4 s5 sl
  obtain ⟨s0, s1, s2, s3, s4, s5, sl⟩ := id S
  go_wp2_with fail
  have q0 := (HE1.out.at_ 0 (by omega)).c10
  have q2 := (HE1.out.at_ 2 (by omega)).c10
  rw [hl] at q0
  simp only [Nat.zero_mul, Nat.zero_add] at q0
  have HC2 := Lib.hid (fun (w' : World) (hb : Below w2.heap.size w2 w') => HC.out b1 4 w' (HE1.out.next hb))
  have hlt := HE1.out.lt
  generalize (x 2).l = L at *
  have L0 : ∀ w', Below w2.heap.size w2 w' → w'.cell? ⟨w.heap.size, 0, none⟩ = some (.int .i64 a) := fun _ h => (S.next h).c0
  have L1 : ∀ w', Below w2.heap.size w2 w' → w'.cell? ⟨w.heap.size, 1, none⟩ = some (.int .i64 b) := fun _ h => (S.next h).c1
  have L2 : ∀ w', Below w2.heap.size w2 w' → w'.cell? ⟨b1, 10, none⟩ = some (.int .i64 L) := fun _ h => (h.cell (p := ⟨b1, 10, none⟩) hlt).trans q0
  have L3 : ∀ w', Below w2.heap.size w2 w' → w'.cell? ⟨b1, 36, none⟩ = some (.int .i64 L) := fun _ h => (h.cell (p := ⟨b1, 36, none⟩) hlt).trans q2
  clear HE1 HC q0 q2 S hl hlt s0 s1 s2 s3 s4 s5 sl
  go_region_held3 (fun w' => Below w2.heap.size w2 w') (first | with_reducible exact bdrew _ | with_reducible exact hS1)
    (first | (go_at_call 17; with_reducible refine (HC2.out _ (bdrew _)).mono ?_; rintro e x1 ⟨rfl, hb1⟩; have hS1 := thn (bdrew w2) hb1))
  replace B := Lib.hid (thn B.out hS1)
  clear L0 L1 L2 L3 hS1 hb1
  go_wp2_with fail
  go_ret
  exact ⟨rfl, B.out⟩
theorem closes_no (a b i k l r E : Int) (HA : Hid Wakes)
    (HE : (E != 0) = true)
    (HP : Hid (NoEls 14 #[ptV a b, .int .i64 i, .int .u8 k, .int .i64 l, .int .i64 r] E)) (w : World) :
    Calls Try.prog 7 #[.agg #[.int .i64 a, .int .i64 b, .int .i64 i, .int .u8 k, .int .i64 l, .int .i64 r]] w fun e w' => e = .returned (.bool true) ∧ Below w.heap.size w w' := by
  go_enter Try.func7, Try.ntmps7
  go_wp2_with fail
  refine (HA.out _).mono ?_
  rintro e w1 ⟨rfl, hb⟩
  have S := (a6_new w (.int .i64 a) (.int .i64 b) (.int .i64 i) (.int .u8 k) (.int .i64 l) (.int .i64 r) 32).next hb
  have B := Lib.hid (thn (below_alloc1 w _) hb)
  clear hb
  obtain ⟨s0, s1, s2, s3, s4, s5, sl⟩ := id S
  go_wp2_with fail
  refine (HP.out _).mono ?_
  rintro e w2 ⟨rfl, hb⟩
  replace S := S.next hb
  replace B := Lib.hid (thn B.out hb)
  clear hb s0 s1 s2 s3 s4 s5 sl
  obtain ⟨s0, s1, s2, s3, s4, s5, sl⟩ := id S
  go_wp2_with fail
  go_ret
  exact ⟨rfl, B.out⟩
theorem enters_ok (q a b i k l r : Int) (x : Nat → El) (HA : Hid Wakes)
    (hq : (q == 1) = false)
    (HP : Hid (MadeEls 18 #[.int .u8 q, ptV a b, .int .i64 i, .int .u8 k, .int .i64 l, .int .i64 r] 3 x))
    (HR : Hid (MadeEls 19 #[.int .u8 q, ptV a b, .int .i64 i, .int .u8 k, .int .i64 l, .int .i64 r] 3 x))
    (HC : Hid (∀ bb ca w, ElsAt w bb 3 x → Calls Try.prog 17 #[.slice (some ⟨bb, 0, none⟩) 3 ca, ptV a b] w fun e w' => e = .returned (.bool true) ∧ Below w.heap.size w w')) (w : World) :
    Calls Try.prog 8 #[.int .u8 q, .agg #[.int .i64 a, .int .i64 b, .int .i64 i, .int .u8 k, .int .i64 l, .int .i64 r]] w fun e w' => e = .returned (.bool true) ∧ Below w.heap.size w w' := by
  go_enter Try.func8, Try.ntmps8
  go_wp2_with fail
  refine (HA.out _).mono ?_
  rintro e w1 ⟨rfl, hb⟩
  have S := (a6_new w (.int .i64 a) (.int .i64 b) (.int .i64 i) (.int .u8 k) (.int .i64 l) (.int .i64 r) 32).next hb
  have B := Lib.hid (thn (below_alloc1 w _) hb)
  clear hb
  obtain ⟨s0, s1, s2, s3, s4, s5, sl⟩ := id S
  go_wp2_with fail
  refine (HP.out _).mono ?_
  rintro e w2 ⟨⟨b1, hb1, rfl, E1⟩, hb⟩
  have HE1 := Lib.hid E1
  clear E1 hb1
  replace S := S.next hb
  replace B := Lib.hid (thn B.out hb)
  clear hb s0 s1 s2 s3 s4 s5 sl
  obtain ⟨s0, s1, s2, s3, s4, s5, sl⟩ := id S
  go_wp2_with fail
  refine (HR.out _).mono ?_
  rintro e w3 ⟨⟨b2, hb2, rfl, E2⟩, hb⟩
  have E1 := HE1.out.next hb
  have HS := Lib.hid (same_some b1 b2 3 3 3 x w3 E1 E2 (by omega))
  replace HE1 := Lib.hid E1
  replace S := S.next hb
  replace B := Lib.hid (thn B.out hb)
  clear hb hb2 s0 s1 s2 s3 s4 s5 sl E1 E2
  go_wp2_with fail
  refine HS.out.mono ?_
  rintro e w4 ⟨rfl, hd⟩
  replace B := Lib.hid (thn B.out (hd.below _))
  replace S := S.next (hd.below _)
  replace HE1 := Lib.hid (HE1.out.next (hd.below _))
  clear hd HS
  obtain ⟨s0, s1, s2, s3, s4, s5, sl⟩ := id S
  go_wp2_with fail
  refine (HC.out _ _ _ HE1.out).mono ?_
  rintro e w5 ⟨rfl, hb⟩
  replace B := Lib.hid (thn B.out hb)
  replace HE1 := Lib.hid (HE1.out.next hb)
  clear hb S s0 s1 s2 s3 s4 s5 sl
  go_wp2_with fail
  go_ret
  exact ⟨rfl, B.out⟩
theorem enters_d (q a b i k l r : Int) (HA : Hid Wakes)
    (hq : (q == 1) = true)
    (HP : Hid (NoEls 18 #[.int .u8 q, ptV a b, .int .i64 i, .int .u8 k, .int .i64 l, .int .i64 r] 0))
    (HR : Hid (NoEls 19 #[.int .u8 q, ptV a b, .int .i64 i, .int .u8 k, .int .i64 l, .int .i64 r] 0)) (w : World) :
    Calls Try.prog 8 #[.int .u8 q, .agg #[.int .i64 a, .int .i64 b, .int .i64 i, .int .u8 k, .int .i64 l, .int .i64 r]] w fun e w' => e = .returned (.bool true) ∧ Below w.heap.size w w' := by
  go_enter Try.func8, Try.ntmps8
  go_wp2_with fail
  refine (HA.out _).mono ?_
  rintro e w1 ⟨rfl, hb⟩
  have S := (a6_new w (.int .i64 a) (.int .i64 b) (.int .i64 i) (.int .u8 k) (.int .i64 l) (.int .i64 r) 32).next hb
  have B := Lib.hid (thn (below_alloc1 w _) hb)
  clear hb
  obtain ⟨s0, s1, s2, s3, s4, s5, sl⟩ := id S
  go_wp2_with fail
  refine (HP.out _).mono ?_
  rintro e w2 ⟨rfl, hb⟩
  replace S := S.next hb
  replace B := Lib.hid (thn B.out hb)
  clear hb s0 s1 s2 s3 s4 s5 sl
  obtain ⟨s0, s1, s2, s3, s4, s5, sl⟩ := id S
  go_wp2_with fail
  refine (HR.out _).mono ?_
  rintro e w3 ⟨rfl, hb⟩
  have HS := Lib.hid (same_none w3)
  replace S := S.next hb
  replace B := Lib.hid (thn B.out hb)
  clear hb s0 s1 s2 s3 s4 s5 sl
  go_wp2_with fail
  refine HS.out.mono ?_
  rintro e w4 ⟨rfl, hd⟩
  replace B := Lib.hid (thn B.out (hd.below _))
  replace S := S.next (hd.below _)
  clear hd HS
  obtain ⟨s0, s1, s2, s3, s4, s5, sl⟩ := id S
  go_wp2_with fail
  go_ret
  exact ⟨rfl, B.out⟩
theorem enters_no (q a b i k l r E : Int) (HA : Hid Wakes)
    (HE : (E != 0) = true)
    (HP : Hid (NoEls 18 #[.int .u8 q, ptV a b, .int .i64 i, .int .u8 k, .int .i64 l, .int .i64 r] E))
    (HR : Hid (NoEls 19 #[.int .u8 q, ptV a b, .int .i64 i, .int .u8 k, .int .i64 l, .int .i64 r] E)) (w : World) :
    Calls Try.prog 8 #[.int .u8 q, .agg #[.int .i64 a, .int .i64 b, .int .i64 i, .int .u8 k, .int .i64 l, .int .i64 r]] w fun e w' => e = .returned (.bool true) ∧ Below w.heap.size w w' := by
  go_enter Try.func8, Try.ntmps8
  go_wp2_with fail
  refine (HA.out _).mono ?_
  rintro e w1 ⟨rfl, hb⟩
  have S := (a6_new w (.int .i64 a) (.int .i64 b) (.int .i64 i) (.int .u8 k) (.int .i64 l) (.int .i64 r) 32).next hb
  have B := Lib.hid (thn (below_alloc1 w _) hb)
  clear hb
  obtain ⟨s0, s1, s2, s3, s4, s5, sl⟩ := id S
  go_wp2_with fail
  refine (HP.out _).mono ?_
  rintro e w2 ⟨rfl, hb⟩
  replace S := S.next hb
  replace B := Lib.hid (thn B.out hb)
  clear hb s0 s1 s2 s3 s4 s5 sl
  obtain ⟨s0, s1, s2, s3, s4, s5, sl⟩ := id S
  go_wp2_with fail
  refine (HR.out _).mono ?_
  rintro e w3 ⟨rfl, hb⟩
  have HS := Lib.hid (same_none w3)
  replace S := S.next hb
  replace B := Lib.hid (thn B.out hb)
  clear hb s0 s1 s2 s3 s4 s5 sl
  go_wp2_with fail
  refine HS.out.mono ?_
  rintro e w4 ⟨rfl, hd⟩
  replace B := Lib.hid (thn B.out (hd.below _))
  replace S := S.next (hd.below _)
  clear hd HS
  obtain ⟨s0, s1, s2, s3, s4, s5, sl⟩ := id S
  go_wp2_with fail
  go_ret
  exact ⟨rfl, B.out⟩
theorem reverses_ok (a b i k l r : Int) (x : Nat → El) (HA : Hid Wakes)
    (HP : Hid (MadeEls 20 #[ptV a b, .int .i64 i, .int .u8 k, .int .i64 l, .int .i64 r] 5 x))
    (HR : Hid (MadeEls 21 #[ptV a b, .int .i64 i, .int .u8 k, .int .i64 l, .int .i64 r] 5 x))
    (HC : Hid (∀ bb ca w, ElsAt w bb 5 x → Calls Try.prog 17 #[.slice (some ⟨bb, 0, none⟩) 5 ca, ptV a b] w fun e w' => e = .returned (.bool true) ∧ Below w.heap.size w w')) (w : World) :
    Calls Try.prog 9 #[.agg #[.int .i64 a, .int .i64 b, .int .i64 i, .int .u8 k, .int .i64 l, .int .i64 r]] w fun e w' => e = .returned (.bool true) ∧ Below w.heap.size w w' := by
  go_enter Try.func9, Try.ntmps9
  go_wp2_with fail
  refine (HA.out _).mono ?_
  rintro e w1 ⟨rfl, hb⟩
  have S := (a6_new w (.int .i64 a) (.int .i64 b) (.int .i64 i) (.int .u8 k) (.int .i64 l) (.int .i64 r) 32).next hb
  have B := Lib.hid (thn (below_alloc1 w _) hb)
  clear hb
  obtain ⟨s0, s1, s2, s3, s4, s5, sl⟩ := id S
  go_wp2_with fail
  refine (HP.out _).mono ?_
  rintro e w2 ⟨⟨b1, hb1, rfl, E1⟩, hb⟩
  have HE1 := Lib.hid E1
  clear E1 hb1
  replace S := S.next hb
  replace B := Lib.hid (thn B.out hb)
  clear hb s0 s1 s2 s3 s4 s5 sl
  obtain ⟨s0, s1, s2, s3, s4, s5, sl⟩ := id S
  go_wp2_with fail
  refine (HR.out _).mono ?_
  rintro e w3 ⟨⟨b2, hb2, rfl, E2⟩, hb⟩
  have E1 := HE1.out.next hb
  have HS := Lib.hid (same_some b1 b2 5 5 5 x w3 E1 E2 (by omega))
  replace HE1 := Lib.hid E1
  replace S := S.next hb
  replace B := Lib.hid (thn B.out hb)
  clear hb hb2 s0 s1 s2 s3 s4 s5 sl E1 E2
  go_wp2_with fail
  refine HS.out.mono ?_
  rintro e w4 ⟨rfl, hd⟩
  replace B := Lib.hid (thn B.out (hd.below _))
  replace S := S.next (hd.below _)
  replace HE1 := Lib.hid (HE1.out.next (hd.below _))
  clear hd HS
  obtain ⟨s0, s1, s2, s3, s4, s5, sl⟩ := id S
  go_wp2_with fail
  refine (HC.out _ _ _ HE1.out).mono ?_
  rintro e w5 ⟨rfl, hb⟩
  replace B := Lib.hid (thn B.out hb)
  replace HE1 := Lib.hid (HE1.out.next hb)
  clear hb S s0 s1 s2 s3 s4 s5 sl
  go_wp2_with fail
  go_ret
  exact ⟨rfl, B.out⟩
theorem reverses_no (a b i k l r E : Int) (HA : Hid Wakes)
    (HE : (E != 0) = true)
    (HP : Hid (NoEls 20 #[ptV a b, .int .i64 i, .int .u8 k, .int .i64 l, .int .i64 r] E))
    (HR : Hid (NoEls 21 #[ptV a b, .int .i64 i, .int .u8 k, .int .i64 l, .int .i64 r] E)) (w : World) :
    Calls Try.prog 9 #[.agg #[.int .i64 a, .int .i64 b, .int .i64 i, .int .u8 k, .int .i64 l, .int .i64 r]] w fun e w' => e = .returned (.bool true) ∧ Below w.heap.size w w' := by
  go_enter Try.func9, Try.ntmps9
  go_wp2_with fail
  refine (HA.out _).mono ?_
  rintro e w1 ⟨rfl, hb⟩
  have S := (a6_new w (.int .i64 a) (.int .i64 b) (.int .i64 i) (.int .u8 k) (.int .i64 l) (.int .i64 r) 32).next hb
  have B := Lib.hid (thn (below_alloc1 w _) hb)
  clear hb
  obtain ⟨s0, s1, s2, s3, s4, s5, sl⟩ := id S
  go_wp2_with fail
  refine (HP.out _).mono ?_
  rintro e w2 ⟨rfl, hb⟩
  replace S := S.next hb
  replace B := Lib.hid (thn B.out hb)
  clear hb s0 s1 s2 s3 s4 s5 sl
  obtain ⟨s0, s1, s2, s3, s4, s5, sl⟩ := id S
  go_wp2_with fail
  refine (HR.out _).mono ?_
  rintro e w3 ⟨rfl, hb⟩
  have HS := Lib.hid (same_none w3)
  replace S := S.next hb
  replace B := Lib.hid (thn B.out hb)
  clear hb s0 s1 s2 s3 s4 s5 sl
  go_wp2_with fail
  refine HS.out.mono ?_
  rintro e w4 ⟨rfl, hd⟩
  replace B := Lib.hid (thn B.out (hd.below _))
  replace S := S.next (hd.below _)
  clear hd HS
  obtain ⟨s0, s1, s2, s3, s4, s5, sl⟩ := id S
  go_wp2_with fail
  go_ret
  exact ⟨rfl, B.out⟩
open Go.RowKit Go.Joins Fdk
set_option linter.unusedVariables false
theorem holdPatterns_walk (a b i k l r : Int) (w : World) :
    Calls Try.prog 6 #[.agg #[.int .i64 a, .int .i64 b, .int .i64 i, .int .u8 k, .int .i64 l, .int .i64 r]] w fun e w' => e = .returned (.bool true) ∧ Below w.heap.size w w' := by
  rcases her_cases a b i k l r with h | h
  · exact patterns_ok a b i k l r _ (Lib.hid awake_any) (Lib.hid fun w => ph_ok a b i k l r w h) (Lib.hid fun w => pr_ok a b i k l r w h) w
  · exact patterns_no a b i k l r _ (Lib.hid awake_any) h (Lib.hid fun w => ph_no a b i k l r w h) (Lib.hid fun w => pr_no a b i k l r w h) w
end Go.Proofs.Ytgabdnabcpdinaa
