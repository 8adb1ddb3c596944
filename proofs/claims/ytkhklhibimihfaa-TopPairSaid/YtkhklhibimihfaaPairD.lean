/- Lists of conflicts that the call makes: how they grow; no function in sight. -/
import Derived.Test.YtkhklhibimihfaaPairC
import Derived.Deep.AppendLies
import Derived.Deep.Upon
namespace Go.Proofs.Ytkhklhibimihfaa
open Go.RowKit Go.Joins Fdk
set_option linter.unusedVariables false
/-- the cells of a list of conflicts. -/
def cf : List (Nat × Nat) → List Value
  | [] => []
  | x :: l => .int .i64 x.1 :: .int .i64 x.2 :: cf l
theorem cf_len : ∀ l : List (Nat × Nat), (cf l).length = l.length * 2
  | [] => rfl
  | x :: l => by show (cf l).length + 2 = (l.length + 1) * 2; rw [cf_len l]; omega
theorem cf_app : ∀ l k : List (Nat × Nat), cf (l ++ k) = cf l ++ cf k
  | [], _ => rfl
  | x :: l, k => by show _ :: _ :: cf (l ++ k) = _; rw [cf_app l k]; rfl
theorem cf_one {l : List (Nat × Nat)} : ∀ u ∈ cf l, u.oneCell' = true := by
  induction l with
  | nil => intro u hu; exact absurd hu (List.not_mem_nil)
  | cons x l ih =>
    intro u hu
    rcases List.mem_cons.1 hu with rfl | hu
    · rfl
    · rcases List.mem_cons.1 hu with rfl | hu
      · rfl
      · exact ih u hu
theorem grown_bl {w w' : World} (h : Below w.heap.size w w') (row : Option Nat) : w.grownBy w' row := ⟨h.os, h.tape, h.output, h.size, fun k hk _ => h.block k hk⟩
theorem below_gr {W w w' : World} {row : Option Nat} (h : Below W.heap.size W w) (g : w.grownBy w' row) (hr : ∀ k, row = some k → W.heap.size ≤ k) : Below W.heap.size W w' :=
  ⟨g.os.trans h.os, g.tape.trans h.tape, g.output.trans h.output, Nat.le_trans h.size g.size, fun i hi => (g.block i (Nat.lt_of_lt_of_le hi h.size) (fun e => by have := hr i e.symm; omega)).trans (h.block i hi)⟩
theorem own_bl {w w' : World} {B e size n : Nat} {v : Value} {xs : List Value} (h : w.ownsRow B e size v n xs) (hb : Below w.heap.size w w') : w'.ownsRow B e size v n xs := h.kept (grown_bl hb none) (by cases hv : v.ownBlock <;> simp)
/-- the two lists, as they have grown. -/
structure Al (good : Nat → Nat → Prop) (W w : World) (s p : Value) (ls lp : List (Nat × Nat)) (c : Nat) : Prop where
  so : w.ownsRow W.heap.size 26 2 s ls.length (cf ls)
  po : w.ownsRow W.heap.size 26 2 p lp.length (cf lp)
  sn : ls = [] → s = .slice none 0 0
  pn : lp = [] → p = .slice none 0 0
  sg : ∀ x ∈ ls, good x.1 x.2
  pg : ∀ x ∈ lp, good x.1 x.2
  le : ls.length + lp.length ≤ c
  ap : ∀ k, s.ownBlock = some k → p.ownBlock ≠ some k
  be : Below W.heap.size W w
theorem Al.start (good : Nat → Nat → Prop) (W : World) : Al good W W (.slice none 0 0) (.slice none 0 0) [] [] 0 :=
  ⟨World.ownsRow_nil _ _ _ _, World.ownsRow_nil _ _ _ _, fun _ => rfl, fun _ => rfl, fun x hx => absurd hx (List.not_mem_nil), fun x hx => absurd hx (List.not_mem_nil), Nat.le_refl _, fun k hk => by simp [Value.ownBlock] at hk, Below.refl _ _⟩
theorem Al.next {good : Nat → Nat → Prop} {W w w' : World} {s p : Value} {ls lp : List (Nat × Nat)} {c d : Nat} (h : Al good W w s p ls lp c) (hb : Below w.heap.size w w') (hc : c ≤ d) : Al good W w' s p ls lp d :=
  ⟨own_bl h.so hb, own_bl h.po hb, h.sn, h.pn, h.sg, h.pg, Nat.le_trans h.le hc, h.ap, thn h.be hb⟩
theorem Al.single {good : Nat → Nat → Prop} {W w w' : World} {s p : Value} {ls lp : List (Nat × Nat)} {c g cap i j : Nat} (h : Al good W w s p ls lp c) (hg : good i j)
    (ho : w'.ownsRow W.heap.size 26 2 (.slice (some ⟨g, 0, none⟩) (ls.length + 1) cap) (ls.length + 1) (cf ls ++ [.int .i64 i, .int .i64 j]))
    (hgr : w.grownBy w' s.ownBlock) (hat : s.ownBlock = some g ∨ g = w.heap.size) : Al good W w' (.slice (some ⟨g, 0, none⟩) (ls.length + 1) cap) p (ls ++ [(i, j)]) lp (c + 1) := by
  have hne : p.ownBlock = none ∨ p.ownBlock ≠ s.ownBlock := by
    cases hs : s.ownBlock with
    | none => cases hp : p.ownBlock <;> simp
    | some k => exact .inr (h.ap k hs)
  refine ⟨?_, h.po.kept hgr hne, fun e => by simp at e, h.pn, fun x hx => ?_, h.pg, by rw [List.length_append]; have := h.le; simp; omega, fun k hk hpk => ?_, below_gr h.be hgr (fun k hk => (h.so.lt k hk).1)⟩
  · rw [cf_app, List.length_append]; exact ho
  · rcases List.mem_append.1 hx with hx | hx
    · exact h.sg x hx
    · rw [List.mem_singleton.1 hx]; exact hg
  · simp only [Value.ownBlock, Option.some.injEq] at hk
    subst hk
    rcases hat with hat | hat
    · exact h.ap _ hat hpk
    · have := (h.po.lt _ hpk).2; omega
theorem Al.pair {good : Nat → Nat → Prop} {W w w' : World} {s p : Value} {ls lp : List (Nat × Nat)} {c g cap i j : Nat} (h : Al good W w s p ls lp c) (hg : good i j)
    (ho : w'.ownsRow W.heap.size 26 2 (.slice (some ⟨g, 0, none⟩) (lp.length + 1) cap) (lp.length + 1) (cf lp ++ [.int .i64 i, .int .i64 j]))
    (hgr : w.grownBy w' p.ownBlock) (hat : p.ownBlock = some g ∨ g = w.heap.size) : Al good W w' s (.slice (some ⟨g, 0, none⟩) (lp.length + 1) cap) ls (lp ++ [(i, j)]) (c + 1) := by
  have hne : s.ownBlock = none ∨ s.ownBlock ≠ p.ownBlock := by
    cases hs : s.ownBlock with
    | none => exact .inl rfl
    | some k => exact .inr (fun e => h.ap k hs e.symm)
  refine ⟨h.so.kept hgr hne, ?_, h.sn, fun e => by simp at e, h.sg, fun x hx => ?_, by rw [List.length_append]; have := h.le; simp; omega, fun k hk hpk => ?_, below_gr h.be hgr (fun k hk => (h.po.lt k hk).1)⟩
  · rw [cf_app, List.length_append]; exact ho
  · rcases List.mem_append.1 hx with hx | hx
    · exact h.pg x hx
    · rw [List.mem_singleton.1 hx]; exact hg
  · simp only [Value.ownBlock, Option.some.injEq] at hpk
    subst hpk
    rcases hat with hat | hat
    · exact h.ap _ hk hat
    · have := (h.so.lt _ hk).2; omega
/-- a slice of conflicts whose first one is known. -/
structure Fst (good : Nat → Nat → Prop) (w : World) (v : Value) : Prop where
  ex : ∃ g k cap i j, v = .slice (some ⟨g, 0, none⟩) k cap ∧ 0 < k ∧ k ≤ maxLen ∧ g < w.heap.size ∧ w.cell? ⟨g, 0, none⟩ = some (.int .i64 ((i : Nat) : Int)) ∧ w.cell? ⟨g, 1, none⟩ = some (.int .i64 ((j : Nat) : Int)) ∧ good i j
theorem fst_of {good : Nat → Nat → Prop} {w : World} {B n : Nat} {v : Value} {l : List (Nat × Nat)} (h : w.ownsRow B 26 2 v n (cf l)) (hn : n = l.length) (hl : l ≠ []) (hg : ∀ x ∈ l, good x.1 x.2) : Fst good w v := by
  cases l with
  | nil => exact absurd rfl hl
  | cons x l =>
    obtain ⟨g, cap, rfl, _, hlt⟩ := h.form (by rw [hn]; exact Nat.succ_pos _)
    have c0 := h.cells (g := g) rfl 0 _ rfl
    have c1 := h.cells (g := g) rfl 1 _ rfl
    rcases h.2 with ⟨h0, _⟩ | ⟨g', cap', cur, hv, _, _, h3, h4, _⟩
    · cases h0
    · cases hv
      exact ⟨g, n, cap, x.1, x.2, rfl, by rw [hn]; exact Nat.succ_pos _, by omega, hlt, by simpa [Addr.add] using c0, by simpa [Addr.add] using c1, hg x (List.mem_cons_self ..)⟩
end Go.Proofs.Ytkhklhibimihfaa
