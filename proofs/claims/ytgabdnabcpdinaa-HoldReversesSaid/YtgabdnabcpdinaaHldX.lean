/- Patterns: hold.Pattern. -/
import Derived.Test.YtgabdnabcpdinaaHldM
namespace Go.Proofs.Ytgabdnabcpdinaa
open Go.RowKit Go.Joins Fdk
set_option linter.unusedVariables false
set_option maxRecDepth 8000 in
set_option maxHeartbeats 16000000 in
theorem ph_no (a b i k l r : Int) (w : World) (h : (her a b i k l r != 0) = true) :
    Calls Try.prog 14 #[ptV a b, .int .i64 i, .int .u8 k, .int .i64 l, .int .i64 r] w fun e w' => e = .returned (.tuple #[.slice none 0 0, .int .i64 (her a b i k l r)]) ∧ Below w.heap.size w w' := by
  have HL := Lib.hid (fun w => shh_no a b i k l r w h)
  generalize her a b i k l r = E at *
  go_enter Try.func14, Try.ntmps14
  go_wp2_with fail
  refine (HL.out _).mono ?_
  rintro e w1 ⟨rfl, hb⟩
  have B := Lib.hid (alc (thn (below_alloc1 w _) hb) ((.cells #[.int .i64 0, .int .i64 0, .int .i64 0, .int .i64 0, .int .i64 0, .int .i64 0, .int .i64 0, .int .i64 0, .int .i64 0, .int .i64 0, .int .i64 0, .int .i64 0, .int .i64 0, .int .i64 0, .int .i64 0] 50)))
  clear hb
  go_wp2_with fail
  go_ret2
  exact ⟨rfl, B.out⟩
set_option maxRecDepth 8000 in
set_option maxHeartbeats 16000000 in
theorem ph_ok (a b i k l r : Int) (w : World) (h : her a b i k l r = 0) :
    Calls Try.prog 14 #[ptV a b, .int .i64 i, .int .u8 k, .int .i64 l, .int .i64 r] w fun e w' => (∃ bb, w.heap.size ≤ bb ∧ e = .returned (.tuple #[.slice (some ⟨bb, 0, none⟩) 4 4, .int .i64 0]) ∧ ElsAt w' bb 4 (patE (shOf a b i k l r) r)) ∧ Below w.heap.size w w' := by
  have HL := Lib.hid (fun w => shh_ok a b i k l r w h)
  have hu0 : -64800000 ≤ (shOf a b i k l r).u ∧ (shOf a b i k l r).u ≤ 194400000 := by
    have := (rng_of (her_ok h).2.2.1).1
    show -64800000 ≤ hu i k ∧ hu i k ≤ 194400000
    unfold hu; split <;> omega
  generalize shOf a b i k l r = S at *
  obtain ⟨p0x, p0y, p1x, p1y, p2x, p2y, p3x, p3y, c1x, c1y, c2x, c2y, u, s⟩ := S
  have HL2 := Lib.hid (HL.out : ∀ w, Calls Try.prog 23 #[ptV a b, .int .i64 i, .int .u8 k, .int .i64 l, .int .i64 r] w fun e w' => e = .returned (.tuple #[shpH p0x p0y p1x p1y p2x p2y p3x p3y c1x c1y c2x c2y u r s, .int .i64 0]) ∧ Below w.heap.size w w')
  have hu1 : -64800000 ≤ u ∧ u ≤ 194400000 := hu0
  have e0 : IntKind.i64.wrap (u + 64800000) = u + 64800000 := IntWalk.i64_in _ (by omega)
  clear h hu0 hu1 HL
  have HA1 := Lib.hid (fun w => arc_any p0x p0y p1x p1y c1x c1y r (u + 64800000) s w)
  have HA2 := Lib.hid (fun w => straight_any p1x p1y p2x p2y w)
  have HA3 := Lib.hid (fun w => arc_any p2x p2y p3x p3y c2x c2y r u s w)
  have HA4 := Lib.hid (fun w => straight_any p3x p3y p0x p0y w)
  obtain ⟨F1, hF1⟩ : ∃ F, F = (u + 64800000) % 129600000 := ⟨_, rfl⟩
  obtain ⟨F3, hF3⟩ : ∃ F, F = u % 129600000 := ⟨_, rfl⟩
  obtain ⟨D1, hD1⟩ : ∃ F, F = alen c1x c1y r F1 s := ⟨_, rfl⟩
  obtain ⟨D2, hD2⟩ : ∃ F, F = dst2 p1x p1y p2x p2y := ⟨_, rfl⟩
  obtain ⟨D3, hD3⟩ : ∃ F, F = alen c2x c2y r F3 s := ⟨_, rfl⟩
  obtain ⟨D4, hD4⟩ : ∃ F, F = dst2 p3x p3y p0x p0y := ⟨_, rfl⟩
  rw [← hF1, ← hD1] at HA1
  rw [← hD2] at HA2
  rw [← hF3, ← hD3] at HA3
  rw [← hD4] at HA4
  have HF := Lib.hid (And.intro hF1 (And.intro hF3 (And.intro hD1 (And.intro hD2 (And.intro hD3 hD4)))))
  clear hF1 hF3 hD1 hD2 hD3 hD4
  go_enter Try.func14, Try.ntmps14
  go_wp2_with fail
  refine (HL2.out _).mono ?_
  rintro e w1 ⟨rfl, hb⟩
  have B := Lib.hid (alc (thn (below_alloc1 w _) hb) (.cells #[.int .i64 p0x, .int .i64 p0y, .int .i64 p1x, .int .i64 p1y, .int .i64 p2x, .int .i64 p2y, .int .i64 p3x, .int .i64 p3y, .int .i64 c1x, .int .i64 c1y, .int .i64 c2x, .int .i64 c2y, .int .i64 u, .int .i64 r, .int .i64 s] 50))
  have S := c15_new w1 (.int .i64 p0x) (.int .i64 p0y) (.int .i64 p1x) (.int .i64 p1y) (.int .i64 p2x) (.int .i64 p2y) (.int .i64 p3x) (.int .i64 p3y) (.int .i64 c1x) (.int .i64 c1y) (.int .i64 c2x) (.int .i64 c2y) (.int .i64 u) (.int .i64 r) (.int .i64 s) 50
  have hbs : w.heap.size ≤ w1.heap.size := by have := hb.size; simp at this; omega
  have HBS := Lib.hid hbs
  clear hb hbs
  go_wp2_with fail
  generalize w1.alloc (.cells #[.int .i64 p0x, .int .i64 p0y, .int .i64 p1x, .int .i64 p1y, .int .i64 p2x, .int .i64 p2y, .int .i64 p3x, .int .i64 p3y, .int .i64 c1x, .int .i64 c1y, .int .i64 c2x, .int .i64 c2y, .int .i64 u, .int .i64 r, .int .i64 s] 50) = v at *
  generalize w1.heap.size = bs at *
  have L0 : ∀ w', Below v.heap.size v w' → w'.cell? ⟨bs, 0, none⟩ = some (.int .i64 p0x) := fun _ h => (S.next h).c0
  have L1 : ∀ w', Below v.heap.size v w' → w'.cell? ⟨bs, 1, none⟩ = some (.int .i64 p0y) := fun _ h => (S.next h).c1
  have L2 : ∀ w', Below v.heap.size v w' → w'.cell? ⟨bs, 2, none⟩ = some (.int .i64 p1x) := fun _ h => (S.next h).c2
  have L3 : ∀ w', Below v.heap.size v w' → w'.cell? ⟨bs, 3, none⟩ = some (.int .i64 p1y) := fun _ h => (S.next h).c3
  have L4 : ∀ w', Below v.heap.size v w' → w'.cell? ⟨bs, 4, none⟩ = some (.int .i64 p2x) := fun _ h => (S.next h).c4
  have L5 : ∀ w', Below v.heap.size v w' → w'.cell? ⟨bs, 5, none⟩ = some (.int .i64 p2y) := fun _ h => (S.next h).c5
  have L6 : ∀ w', Below v.heap.size v w' → w'.cell? ⟨bs, 6, none⟩ = some (.int .i64 p3x) := fun _ h => (S.next h).c6
  have L7 : ∀ w', Below v.heap.size v w' → w'.cell? ⟨bs, 7, none⟩ = some (.int .i64 p3y) := fun _ h => (S.next h).c7
  have L8 : ∀ w', Below v.heap.size v w' → w'.cell? ⟨bs, 8, none⟩ = some (.int .i64 c1x) := fun _ h => (S.next h).c8
  have L9 : ∀ w', Below v.heap.size v w' → w'.cell? ⟨bs, 9, none⟩ = some (.int .i64 c1y) := fun _ h => (S.next h).c9
  have L10 : ∀ w', Below v.heap.size v w' → w'.cell? ⟨bs, 10, none⟩ = some (.int .i64 c2x) := fun _ h => (S.next h).c10
  have L11 : ∀ w', Below v.heap.size v w' → w'.cell? ⟨bs, 11, none⟩ = some (.int .i64 c2y) := fun _ h => (S.next h).c11
  have L12 : ∀ w', Below v.heap.size v w' → w'.cell? ⟨bs, 12, none⟩ = some (.int .i64 u) := fun _ h => (S.next h).c12
  have L13 : ∀ w', Below v.heap.size v w' → w'.cell? ⟨bs, 13, none⟩ = some (.int .i64 r) := fun _ h => (S.next h).c13
  have L14 : ∀ w', Below v.heap.size v w' → w'.cell? ⟨bs, 14, none⟩ = some (.int .i64 s) := fun _ h => (S.next h).c14
  clear S
  go_region_held3 (fun w' => Below v.heap.size v w') (first | with_reducible exact bdrew _ | with_reducible exact hS1 | with_reducible exact hS2 | with_reducible exact hS3 | with_reducible exact hS4 | with_reducible exact alc hS4 _)
    (first | (go_at_call 24; with_reducible refine (HA1.out _).mono ?_; rintro e x1 ⟨rfl, hb1⟩; have hS1 := thn (bdrew v) hb1) | (go_at_call 25; with_reducible refine (HA2.out _).mono ?_; rintro e x2 ⟨rfl, hb2⟩; have hS2 := thn hS1 hb2) | (go_at_call 24; with_reducible refine (HA3.out _).mono ?_; rintro e x3 ⟨rfl, hb3⟩; have hS3 := thn hS2 hb3) | (go_at_call 25; with_reducible refine (HA4.out _).mono ?_; rintro e x4 ⟨rfl, hb4⟩; have hS4 := thn hS3 hb4))
  clear L0 L1 L2 L3 L4 L5 L6 L7 L8 L9 L10 L11 L12 L13 L14
  obtain ⟨rfl, rfl, rfl, rfl, rfl, rfl⟩ := HF.out
  have B4 := thn B.out hS4
  have g := els4_new x4 (arcE p0x p0y p1x p1y c1x c1y r (u + 64800000) s) (lineE p1x p1y p2x p2y) (arcE p2x p2y p3x p3y c2x c2y r u s) (lineE p3x p3y p0x p0y) 43
  go_wp2_with fail
  trace_state
  go_ret2
  exact ⟨⟨_, B4.size, rfl, g⟩, alc B4 _⟩
end Go.Proofs.Ytgabdnabcpdinaa
