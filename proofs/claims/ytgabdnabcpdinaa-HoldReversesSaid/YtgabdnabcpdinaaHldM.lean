/- Patterns: hold.Pattern and the reference's. -/
import Derived.Test.YtgabdnabcpdinaaHldK
import Derived.Test.YtgabdnabcpdinaaHldW
namespace Go.Proofs.Ytgabdnabcpdinaa
open Go.RowKit Go.Joins Fdk
set_option linter.unusedVariables false
abbrev Sh.h (S : Sh) (r : Int) : Value := shpH S.p0x S.p0y S.p1x S.p1y S.p2x S.p2y S.p3x S.p3y S.c1x S.c1y S.c2x S.c2y S.u r S.s
theorem lhv_sh {a b i k l r : Int} (h : hsg a b (hu i k) i l r = true) : lhv a b (hu i k) i l r (hsw k) = (shOf a b i k l r).h r := by unfold lhv; rw [h]; rfl
theorem hsv_sh {a b i k l r : Int} (h : hsg a b (hu i k) i l r = true) : hsv a b (hu i k) i l r (hsw k) = (shOf a b i k l r).r := by unfold hsv; rw [h]; rfl
theorem hse_ok {a b u i l r : Int} (h : hsg a b u i l r = true) : hse a b u i l r = 0 := by unfold hse; rw [h]; rfl
theorem shh_ok (a b i k l r : Int) (w : World) (h : her a b i k l r = 0) :
    Calls Try.prog 23 #[ptV a b, .int .i64 i, .int .u8 k, .int .i64 l, .int .i64 r] w fun e w' => e = .returned (.tuple #[(shOf a b i k l r).h r, .int .i64 0]) ∧ Below w.heap.size w w' := by
  obtain ⟨h1, h2, h3, h4⟩ := her_ok h
  have g := lay_any a b i k l r w h1 h2 h3
  rw [lhv_sh h4, hse_ok h4] at g
  exact g
theorem shh_no (a b i k l r : Int) (w : World) (h : (her a b i k l r != 0) = true) :
    Calls Try.prog 23 #[ptV a b, .int .i64 i, .int .u8 k, .int .i64 l, .int .i64 r] w fun e w' => e = .returned (.tuple #[shpH 0 0 0 0 0 0 0 0 0 0 0 0 0 0 0 , .int .i64 (her a b i k l r)]) ∧ Below w.heap.size w w' := by
  cases h1 : pvd a b with
  | false =>
    rw [show her a b i k l r = 1 by unfold her; rw [h1]; simp]
    exact lay_a a b i k l r w h1
  | true =>
    by_cases h2 : k = 1 ∨ k = 2
    · cases h3 : rng i l r with
      | false =>
        rw [show her a b i k l r = 2 by unfold her; rw [h1, h3, if_pos ⟨rfl, h2⟩]; rfl]
        exact lay_r a b i k l r w h1 h2 h3
      | true =>
        have e : her a b i k l r = hse a b (hu i k) i l r := by unfold her; rw [h1, h3, if_pos ⟨rfl, h2⟩]; rfl
        have g := lay_any a b i k l r w h1 h2 h3
        cases h4 : hsg a b (hu i k) i l r with
        | true => rw [e, hse_ok h4] at h; exact absurd h (by decide)
        | false =>
          rw [(lh_no (s := hsw k) h4).1] at g
          rw [e]
          exact g
    · rw [show her a b i k l r = 1 by unfold her; rw [h1, if_neg (fun c => h2 c.2)]]
      exact lay_b a b i k l r w h1 (fun c => h2 (.inl c)) (fun c => h2 (.inr c))
theorem shr_ok (a b i k l r : Int) (w : World) (h : her a b i k l r = 0) :
    Calls Try.prog 26 #[ptV a b, .int .i64 i, .int .u8 k, .int .i64 l, .int .i64 r] w fun e w' => e = .returned (.tuple #[(shOf a b i k l r).r, .int .i64 0]) ∧ Below w.heap.size w w' := by
  obtain ⟨h1, h2, h3, h4⟩ := her_ok h
  have g := pts_any a b i k l r w h1 h2 h3
  rw [hsv_sh h4, hse_ok h4] at g
  exact g
theorem shr_no (a b i k l r : Int) (w : World) (h : (her a b i k l r != 0) = true) :
    Calls Try.prog 26 #[ptV a b, .int .i64 i, .int .u8 k, .int .i64 l, .int .i64 r] w fun e w' => e = .returned (.tuple #[shpR 0 0 0 0 0 0 0 0 0 0 0 0 0 0 , .int .i64 (her a b i k l r)]) ∧ Below w.heap.size w w' := by
  cases h1 : pvd a b with
  | false =>
    rw [show her a b i k l r = 1 by unfold her; rw [h1]; simp]
    exact pts_a a b i k l r w h1
  | true =>
    by_cases h2 : k = 1 ∨ k = 2
    · cases h3 : rng i l r with
      | false =>
        rw [show her a b i k l r = 2 by unfold her; rw [h1, h3, if_pos ⟨rfl, h2⟩]; rfl]
        exact pts_r a b i k l r w h1 h2 h3
      | true =>
        have e : her a b i k l r = hse a b (hu i k) i l r := by unfold her; rw [h1, h3, if_pos ⟨rfl, h2⟩]; rfl
        have g := pts_any a b i k l r w h1 h2 h3
        cases h4 : hsg a b (hu i k) i l r with
        | true => rw [e, hse_ok h4] at h; exact absurd h (by decide)
        | false =>
          rw [(hs_no (s := hsw k) h4).1] at g
          rw [e]
          exact g
    · rw [show her a b i k l r = 1 by unfold her; rw [h1, if_neg (fun c => h2 c.2)]]
      exact pts_b a b i k l r w h1 (fun c => h2 (.inl c)) (fun c => h2 (.inr c))
end Go.Proofs.Ytgabdnabcpdinaa
