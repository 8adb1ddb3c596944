/- Worlds that have only drawn; slices of pairs of numbers in memory. -/
import Derived.Test.YtkhklhibimihfaaCells
import Derived.Deep.QuietTactic
import Derived.BigQuiet
import Derived.WalkSmall
import Derived.LoopN
import Derived.Deep.RegionHeld3
import Derived.Deep.DeepCutAuto
namespace Go.Proofs.Ytkhklhibimihfaa
open Go.RowKit Go.Joins
set_option linter.unusedVariables false
/-- the world has only drawn. -/
def Drew (w w' : World) : Prop := ∃ q, w' = w.drewN q
theorem Drew.refl (w : World) : Drew w w := ⟨0, rfl⟩
theorem Drew.trans {a b c : World} (h : Drew a b) (k : Drew b c) : Drew a c := by
  obtain ⟨p, rfl⟩ := h; obtain ⟨q, rfl⟩ := k; exact ⟨p + q, World.drewN_drewN _ _ _⟩
theorem Drew.below {a b : World} (h : Drew a b) (B : Nat) : Below B a b := by
  obtain ⟨p, rfl⟩ := h; exact below_drewN (Below.refl _ _) _
theorem quiet_same {P : Program} {f : FuncId} {args : Array Value} {w : World} {n : Nat} {v : Value}
    (h : Calls P f args (w.drewN n) fun e w' => e = .returned v ∧ w.drewN n = w') : Calls P f args (w.drewN n) fun e w'' => e = .returned v ∧ ∃ m, w'' = w.drewN m :=
  h.mono fun _ _ ⟨he, hm⟩ => ⟨he, n, hm.symm⟩
theorem quiet_drew {P : Program} {f : FuncId} {args : Array Value} {w : World} {n : Nat} {v : Value}
    (h : Calls P f args (w.drewN n) fun e w' => e = .returned v ∧ Drew (w.drewN n) w') : Calls P f args (w.drewN n) fun e w'' => e = .returned v ∧ ∃ m, w'' = w.drewN m :=
  h.mono fun _ _ ⟨he, q, hq⟩ => ⟨he, n + q, by rw [hq, World.drewN_drewN]⟩
/-- the elements of a slice of pairs. -/
def PosAt (w : World) (b off n : Nat) (A B : Nat → Int) : Prop := ∀ i, i < n → w.cell? ⟨b, off + i * 2, none⟩ = some (.int .i64 (A i)) ∧ w.cell? ⟨b, off + i * 2 + 1, none⟩ = some (.int .i64 (B i))
theorem PosAt.next {w w' : World} {b off n : Nat} {A B : Nat → Int} (h : PosAt w b off n A B) (hb : b < w.heap.size) (k : Below w.heap.size w w') : PosAt w' b off n A B := fun i hi => by
  obtain ⟨h1, h2⟩ := h i hi
  exact ⟨(k.cell (p := ⟨b, off + i * 2, none⟩) hb).trans h1, (k.cell (p := ⟨b, off + i * 2 + 1, none⟩) hb).trans h2⟩
/-- a slice of pairs. -/
structure S2 (w : World) (q : Option Addr) (n c : Nat) (A B : Nat → Int) : Prop where
  nm : n ≤ maxLen
  cm : 0 < n → n ≤ c ∧ c ≤ maxLen
  el : 0 < n → ∃ b off, q = some ⟨b, off, none⟩ ∧ b < w.heap.size ∧ PosAt w b off n A B
theorem S2.next {w w' : World} {q : Option Addr} {n c : Nat} {A B : Nat → Int} (h : S2 w q n c A B) (k : Below w.heap.size w w') : S2 w' q n c A B :=
  ⟨h.nm, h.cm, fun hn => by
    obtain ⟨b, off, hq, hb, hp⟩ := h.el hn
    exact ⟨b, off, hq, Nat.lt_of_lt_of_le hb k.size, hp.next hb k⟩⟩
end Go.Proofs.Ytkhklhibimihfaa
