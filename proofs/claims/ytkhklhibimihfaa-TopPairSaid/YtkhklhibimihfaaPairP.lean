/- Chains of windows and steps: what excludes what; plain. -/
import Derived.Test.YtkhklhibimihfaaChecked
import Derived.WalkKit
namespace Go.Proofs.Ytkhklhibimihfaa
namespace Fdk
/-- the sum of c values from place i on. -/
def sm (U : Nat → Int) (i : Nat) : Nat → Int
  | 0 => 0
  | c + 1 => sm U i c + U (i + c)
theorem sum_b {U : Nat → Int} {i m : Nat} (h : ∀ k, k < m → 0 ≤ U k ∧ U k ≤ 1099511627776) : ∀ c : Nat, i + c ≤ m → 0 ≤ sm U i c ∧ sm U i c ≤ 1099511627776 * c
  | 0, _ => ⟨Int.le_refl _, Int.le_refl _⟩
  | c + 1, hc => by
    have g := sum_b (i := i) (m := m) h c (by omega)
    have k := h (i + c) (by omega)
    show 0 ≤ sm U i c + U (i + c) ∧ sm U i c + U (i + c) ≤ _
    omega
/-- by how much two windows exclude each other. -/
def exv (A B U D : Nat → Int) (i j : Nat) : Int :=
  if i = j then A i - B i else if A i > B i ∨ A j > B j then 0 else max (A j - (B i + sm U i (j - i))) (A i - sm D i (j - i) - B j)
/-- windows and steps without an error. -/
structure Okc (n m : Nat) (A B U D : Nat → Int) : Prop where
  n64 : n ≤ 64
  mn : m = n - 1
  w : ∀ i, i < n → (-1099511627776 ≤ A i ∧ A i ≤ 1099511627776) ∧ (-1099511627776 ≤ B i ∧ B i ≤ 1099511627776)
  s : ∀ i, i < m → (0 ≤ U i ∧ U i ≤ 1099511627776) ∧ (0 ≤ D i ∧ D i ≤ 1099511627776)
/-- there is a conflict. -/
def Pos (n : Nat) (A B U D : Nat → Int) : Prop := ∃ i j, i ≤ j ∧ j < n ∧ exv A B U D i j > 0
/-- all windows but two are wide. -/
def wlo (A : Nat → Int) (i k t : Nat) : Int := if t = i ∨ t = k then A t else -1099511627776
def whi (B : Nat → Int) (i k t : Nat) : Int := if t = i ∨ t = k then B t else 1099511627776
theorem Okc.wide {n m : Nat} {A B U D : Nat → Int} (h : Okc n m A B U D) (i k : Nat) : Okc n m (wlo A i k) (whi B i k) U D :=
  ⟨h.n64, h.mn, fun t ht => by
    have := h.w t ht
    unfold wlo whi
    split <;> omega, h.s⟩
theorem max_pos {a b : Int} (h : max a b > 0) : a > 0 ∨ b > 0 := by omega
theorem pos_wide {n m : Nat} {A B U D : Nat → Int} (h : Okc n m A B U D) {i k : Nat} (hp : Pos n (wlo A i k) (whi B i k) U D) : Pos n A B U D := by
  obtain ⟨a, b, h1, h2, h3⟩ := hp
  refine ⟨a, b, h1, h2, ?_⟩
  have ga := h.w a (by omega)
  have gb := h.w b h2
  by_cases ea : a = i ∨ a = k
  · by_cases eb : b = i ∨ b = k
    · have e1 : wlo A i k a = A a := if_pos ea
      have e2 : whi B i k a = B a := if_pos ea
      have e3 : wlo A i k b = A b := if_pos eb
      have e4 : whi B i k b = B b := if_pos eb
      unfold exv at h3 ⊢
      rw [e1, e2, e3, e4] at h3
      exact h3
    · exfalso
      have e1 : wlo A i k a = A a := if_pos ea
      have e2 : whi B i k a = B a := if_pos ea
      have e3 : wlo A i k b = -1099511627776 := if_neg eb
      have e4 : whi B i k b = 1099511627776 := if_neg eb
      unfold exv at h3
      rw [e1, e2, e3, e4] at h3
      by_cases e : a = b
      · subst e; exact eb ea
      · rw [if_neg e] at h3
        split at h3
        · omega
        · have s1 := (sum_b (i := a) (m := m) (fun t ht => (h.s t ht).1) (b - a) (by have := h.mn; omega)).1
          have s2 := (sum_b (i := a) (m := m) (fun t ht => (h.s t ht).2) (b - a) (by have := h.mn; omega)).1
          rcases max_pos h3 with h4 | h4 <;> omega
  · exfalso
    have e1 : wlo A i k a = -1099511627776 := if_neg ea
    have e2 : whi B i k a = 1099511627776 := if_neg ea
    have gb' : (-1099511627776 ≤ wlo A i k b ∧ wlo A i k b ≤ 1099511627776) ∧ (-1099511627776 ≤ whi B i k b ∧ whi B i k b ≤ 1099511627776) := by
      unfold wlo whi; split <;> omega
    unfold exv at h3
    rw [e1, e2] at h3
    by_cases e : a = b
    · rw [if_pos e] at h3; omega
    · rw [if_neg e] at h3
      split at h3
      · omega
      · have s1 := (sum_b (i := a) (m := m) (fun t ht => (h.s t ht).1) (b - a) (by have := h.mn; omega)).1
        have s2 := (sum_b (i := a) (m := m) (fun t ht => (h.s t ht).2) (b - a) (by have := h.mn; omega)).1
        rcases max_pos h3 with h4 | h4 <;> omega
theorem wide_pos {n : Nat} {A B U D : Nat → Int} {i k : Nat} (h1 : i ≤ k) (h2 : k < n) (h3 : exv A B U D i k > 0) : Pos n (wlo A i k) (whi B i k) U D := by
  refine ⟨i, k, h1, h2, ?_⟩
  have e1 : wlo A i k i = A i := if_pos (.inl rfl)
  have e2 : whi B i k i = B i := if_pos (.inl rfl)
  have e3 : wlo A i k k = A k := if_pos (.inr rfl)
  have e4 : whi B i k k = B k := if_pos (.inr rfl)
  unfold exv at h3 ⊢
  rw [e1, e2, e3, e4]
  exact h3
end Fdk
end Go.Proofs.Ytkhklhibimihfaa
