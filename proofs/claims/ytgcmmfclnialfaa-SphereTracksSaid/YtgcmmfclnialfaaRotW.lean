/- Course and distance lead to the other position: the exact direction (last part). -/
import Derived.Test.YtgcmmfclnialfaaRotU
namespace Go.Proofs.Ytgcmmfclnialfaa
open Go.RowKit Go.Joins Fdk
set_option linter.unusedVariables false
theorem sq2 {x y r s : Rat} {X Y R : Rat} (h : X * X + Y * Y ≤ R * R) (R0 : 0 ≤ R) (hx : -r ≤ x - X ∧ x - X ≤ r) (hy : -s ≤ y - Y ∧ y - Y ≤ s) : x * x + y * y ≤ (R + (r + s)) * (R + (r + s)) := by
  have n1 : nrm X Y 0 R := ⟨R0, by grind⟩
  have n2 : nrm (x - X) (y - Y) 0 (r + s) := ⟨by grind, by
    have p1 := mulab hx.1 hx.2 hx.1 hx.2
    have p2 := mulab hy.1 hy.2 hy.1 hy.2
    have p3 := Rat.mul_nonneg (a := r) (b := s) (by grind) (by grind)
    grind⟩
  have n3 := nrm_add n1 n2
  have g : ∀ x X : Rat, X + (x - X) = x := fun x X => by grind
  rw [g, g] at n3
  have := n3.2
  grind
/-- the vector of the other position is along the exact direction of the program's course, at the program's distance. -/
theorem returns_core {E N U m n u v S C s c : Rat} (h : E * E + N * N + U * U ≤ 1073741831 * 1073741831) (ht : C * C + S * S = 1) (hδ : c * c + s * s = 1)
    (h1 : -(35/10) ≤ u - E ∧ u - E ≤ 35/10) (h2 : -(73/10) ≤ v - N ∧ v - N ≤ 73/10) (h3 : -(73/10) ≤ n - U ∧ n - U ≤ 73/10)
    (hc : (-(5492/100 * 1073741850) ≤ 1073741824 * (u * C - v * S) ∧ 1073741824 * (u * C - v * S) ≤ 5492/100 * 1073741850) ∧ 0 ≤ v * C + u * S)
    (hm1 : ∀ r, 0 ≤ r → E * E + N * N ≤ r * r → m ≤ r + 77/10) (hm2 : E * E + N * N ≤ (m + 87/10) * (m + 87/10)) (m0 : 0 ≤ m) :
    (-66 ≤ E * C - N * S ∧ E * C - N * S ≤ 66) ∧ (-96 ≤ E * S + N * C - m ∧ E * S + N * C - m ≤ 96) ∧ n * n + m * m ≤ 1073742000 * 1073742000 := by
  have a1 := mulab (a := u - E) (b := C) (A := 35/10) (B := 1) h1.1 h1.2 (sq_le_r (b := 1) (by grind) (by have := rsq S; grind)).1 (sq_le_r (b := 1) (by grind) (by have := rsq S; grind)).2
  have a2 := mulab (a := u - E) (b := S) (A := 35/10) (B := 1) h1.1 h1.2 (sq_le_r (b := 1) (by grind) (by have := rsq C; grind)).1 (sq_le_r (b := 1) (by grind) (by have := rsq C; grind)).2
  have a3 := mulab (a := v - N) (b := C) (A := 73/10) (B := 1) h2.1 h2.2 (sq_le_r (b := 1) (by grind) (by have := rsq S; grind)).1 (sq_le_r (b := 1) (by grind) (by have := rsq S; grind)).2
  have a4 := mulab (a := v - N) (b := S) (A := 73/10) (B := 1) h2.1 h2.2 (sq_le_r (b := 1) (by grind) (by have := rsq C; grind)).1 (sq_le_r (b := 1) (by grind) (by have := rsq C; grind)).2
  have hid : (E * C - N * S) * (E * C - N * S) + (E * S + N * C) * (E * S + N * C) = E * E + N * N := by
    have : (E * C - N * S) * (E * C - N * S) + (E * S + N * C) * (E * S + N * C) = (E * E + N * N) * (C * C + S * S) := by grind
    rw [this, ht]; grind
  have α : -66 ≤ E * C - N * S ∧ E * C - N * S ≤ 66 := by
    have e : E * C - N * S = (u * C - v * S) - (u - E) * C + (v - N) * S := by grind
    rw [e]
    generalize u * C - v * S = T1 at *
    generalize (u - E) * C = T2 at *
    generalize (v - N) * S = T3 at *
    obtain ⟨⟨c1, c2⟩, _⟩ := hc
    constructor <;> grind
  have β0 : -11 ≤ E * S + N * C := by
    have e : E * S + N * C = (v * C + u * S) - (u - E) * S - (v - N) * C := by grind
    rw [e]
    obtain ⟨_, c3⟩ := hc
    generalize v * C + u * S = T1 at *
    generalize (u - E) * S = T2 at *
    generalize (v - N) * C = T3 at *
    grind
  generalize E * C - N * S = A at *
  generalize E * S + N * C = B at *
  have hA := mulab α.1 α.2 α.1 α.2
  have b1 : m ≤ B + 88 + 77/10 := hm1 (B + 88) (by grind) (by
    have := Rat.mul_nonneg (a := B + 11) (b := 176) (by grind) (by grind)
    grind)
  have b2 : B ≤ m + 87/10 := le_of_sq (by grind) (by have := rsq A; grind)
  have B1 : -96 ≤ B - m ∧ B - m ≤ 96 := by constructor <;> grind
  refine ⟨α, B1, ?_⟩
  have q := sq2 (x := n) (y := m) (r := 73/10) (s := 96) (X := U) (Y := B) (R := 1073741831) (by have := rsq A; grind) (by grind) h3 (by constructor <;> grind)
  have w : (1073741831 + ((73 : Rat)/10 + 96)) * (1073741831 + (73/10 + 96)) ≤ 1073742000 * 1073742000 := by decide +kernel
  grind
end Go.Proofs.Ytgcmmfclnialfaa
