/- The points and the elements of a pattern: plain. -/
import Derived.Test.YtgabdnabcpdinaaHldH
import Derived.Test.YtgabdnabcpdinaaHldO
namespace Go.Proofs.Ytgabdnabcpdinaa
open Go.RowKit Go.Joins Fdk
set_option linter.unusedVariables false
/-- the points of a pattern. -/
structure Sh where
  p0x : Int
  p0y : Int
  p1x : Int
  p1y : Int
  p2x : Int
  p2y : Int
  p3x : Int
  p3y : Int
  c1x : Int
  c1y : Int
  c2x : Int
  c2y : Int
  u : Int
  s : Int
def shOf (a b i k l r : Int) : Sh := ⟨a, b, (rayv a b (hu i k) (2 * r)).1, (rayv a b (hu i k) (2 * r)).2.1, (rayv a b (hu i k) (2 * r)).1 + ((rayv a b (i + 64800000) l).1 - a), (rayv a b (hu i k) (2 * r)).2.1 + ((rayv a b (i + 64800000) l).2.1 - b), (rayv a b (i + 64800000) l).1, (rayv a b (i + 64800000) l).2.1, (rayv a b (hu i k) r).1, (rayv a b (hu i k) r).2.1, (rayv a b (hu i k) r).1 + ((rayv a b (i + 64800000) l).1 - a), (rayv a b (hu i k) r).2.1 + ((rayv a b (i + 64800000) l).2.1 - b), hu i k, hsw k⟩
abbrev Sh.r (S : Sh) : Value := shpR S.p0x S.p0y S.p1x S.p1y S.p2x S.p2y S.p3x S.p3y S.c1x S.c1y S.c2x S.c2y S.u S.s
/-- the error of a pattern; 0: none. -/
def her (a b i k l r : Int) : Int := if pvd a b = true ∧ (k = 1 ∨ k = 2) then (if rng i l r = true then hse a b (hu i k) i l r else 2) else 1
theorem her_ok {a b i k l r : Int} (h : her a b i k l r = 0) : pvd a b = true ∧ (k = 1 ∨ k = 2) ∧ rng i l r = true ∧ hsg a b (hu i k) i l r = true := by
  unfold her at h
  split at h
  · next h1 =>
    split at h
    · next h2 =>
      refine ⟨h1.1, h1.2, h2, ?_⟩
      cases h3 : hsg a b (hu i k) i l r with
      | true => rfl
      | false => unfold hse at h; rw [h3] at h; exact absurd h (by decide)
    · exact absurd h (by decide)
  · exact absurd h (by decide)
theorem her_cases (a b i k l r : Int) : her a b i k l r = 0 ∨ (her a b i k l r != 0) = true := by
  by_cases h : her a b i k l r = 0
  · exact .inl h
  · exact .inr (by simp [h])
def arcE (a b c d x y r f s : Int) : El := ⟨true, a, b, c, d, x, y, r, f % 129600000, s, alen x y r (f % 129600000) s, 0, false⟩
def lineE (a b c d : Int) : El := ⟨false, a, b, c, d, 0, 0, 0, 0, 0, dst2 a b c d, 0, false⟩
def patE (S : Sh) (r : Int) : Nat → El := el4 (arcE S.p0x S.p0y S.p1x S.p1y S.c1x S.c1y r (S.u + 64800000) S.s) (lineE S.p1x S.p1y S.p2x S.p2y) (arcE S.p2x S.p2y S.p3x S.p3y S.c2x S.c2y r S.u S.s) (lineE S.p3x S.p3y S.p0x S.p0y)
end Go.Proofs.Ytgabdnabcpdinaa
