/- The law's bounds of the real sine and cosine: the loop. -/
import Derived.Test.YtdbklfledjaklaaLaw07d
namespace Go.Proofs.Ytdbklfledjaklaa
open Go.RowKit Fdk
set_option linter.unusedVariables false

theorem ser1_s0 (a : Int) : (ser1 a 1).pl = fdn (fdn (ser1 a 0).pl (tlo a)) (tlo a) / 6 ∧ (ser1 a 1).ph = fup (fup (ser1 a 0).ph (thi a)) (thi a) / 6 + 1 ∧ (ser1 a 1).lo = (ser1 a 0).lo - (ser1 a 1).ph ∧ (ser1 a 1).hi = (ser1 a 0).hi - (ser1 a 1).pl := by
  exact ⟨rfl, rfl, rfl, rfl⟩
theorem ser1_s1 (a : Int) : (ser1 a 2).pl = fdn (fdn (ser1 a 1).pl (tlo a)) (tlo a) / 20 ∧ (ser1 a 2).ph = fup (fup (ser1 a 1).ph (thi a)) (thi a) / 20 + 1 ∧ (ser1 a 2).lo = (ser1 a 1).lo + (ser1 a 2).pl ∧ (ser1 a 2).hi = (ser1 a 1).hi + (ser1 a 2).ph := by
  exact ⟨rfl, rfl, rfl, rfl⟩
theorem ser1_s2 (a : Int) : (ser1 a 3).pl = fdn (fdn (ser1 a 2).pl (tlo a)) (tlo a) / 42 ∧ (ser1 a 3).ph = fup (fup (ser1 a 2).ph (thi a)) (thi a) / 42 + 1 ∧ (ser1 a 3).lo = (ser1 a 2).lo - (ser1 a 3).ph ∧ (ser1 a 3).hi = (ser1 a 2).hi - (ser1 a 3).pl := by
  exact ⟨rfl, rfl, rfl, rfl⟩
theorem ser1_s3 (a : Int) : (ser1 a 4).pl = fdn (fdn (ser1 a 3).pl (tlo a)) (tlo a) / 72 ∧ (ser1 a 4).ph = fup (fup (ser1 a 3).ph (thi a)) (thi a) / 72 + 1 ∧ (ser1 a 4).lo = (ser1 a 3).lo + (ser1 a 4).pl ∧ (ser1 a 4).hi = (ser1 a 3).hi + (ser1 a 4).ph := by
  exact ⟨rfl, rfl, rfl, rfl⟩
theorem ser1_s4 (a : Int) : (ser1 a 5).pl = fdn (fdn (ser1 a 4).pl (tlo a)) (tlo a) / 110 ∧ (ser1 a 5).ph = fup (fup (ser1 a 4).ph (thi a)) (thi a) / 110 + 1 ∧ (ser1 a 5).lo = (ser1 a 4).lo - (ser1 a 5).ph ∧ (ser1 a 5).hi = (ser1 a 4).hi - (ser1 a 5).pl := by
  exact ⟨rfl, rfl, rfl, rfl⟩
theorem ser1_s5 (a : Int) : (ser1 a 6).pl = fdn (fdn (ser1 a 5).pl (tlo a)) (tlo a) / 156 ∧ (ser1 a 6).ph = fup (fup (ser1 a 5).ph (thi a)) (thi a) / 156 + 1 ∧ (ser1 a 6).lo = (ser1 a 5).lo + (ser1 a 6).pl ∧ (ser1 a 6).hi = (ser1 a 5).hi + (ser1 a 6).ph := by
  exact ⟨rfl, rfl, rfl, rfl⟩
theorem ser1_s6 (a : Int) : (ser1 a 7).pl = fdn (fdn (ser1 a 6).pl (tlo a)) (tlo a) / 210 ∧ (ser1 a 7).ph = fup (fup (ser1 a 6).ph (thi a)) (thi a) / 210 + 1 ∧ (ser1 a 7).lo = (ser1 a 6).lo - (ser1 a 7).ph ∧ (ser1 a 7).hi = (ser1 a 6).hi - (ser1 a 7).pl := by
  exact ⟨rfl, rfl, rfl, rfl⟩
theorem ser1_s7 (a : Int) : (ser1 a 8).pl = fdn (fdn (ser1 a 7).pl (tlo a)) (tlo a) / 272 ∧ (ser1 a 8).ph = fup (fup (ser1 a 7).ph (thi a)) (thi a) / 272 + 1 ∧ (ser1 a 8).lo = (ser1 a 7).lo + (ser1 a 8).pl ∧ (ser1 a 8).hi = (ser1 a 7).hi + (ser1 a 8).ph := by
  exact ⟨rfl, rfl, rfl, rfl⟩
theorem ser1_s8 (a : Int) : (ser1 a 9).pl = fdn (fdn (ser1 a 8).pl (tlo a)) (tlo a) / 342 ∧ (ser1 a 9).ph = fup (fup (ser1 a 8).ph (thi a)) (thi a) / 342 + 1 ∧ (ser1 a 9).lo = (ser1 a 8).lo - (ser1 a 9).ph ∧ (ser1 a 9).hi = (ser1 a 8).hi - (ser1 a 9).pl := by
  exact ⟨rfl, rfl, rfl, rfl⟩
set_option maxHeartbeats 3200000 in
theorem real_1 (a : Int) (w : World) (h0 : 0 ≤ a) (h1 : a ≤ 16200000) :
    Calls Try.prog 18 #[.int .i64 a, .int .i64 1] w fun e w' => e = TwoI (ser1 a 9).lo ((ser1 a 9).hi + 1) ∧ w = w' := by
  have HB := Lib.hid (ser1_b h0 h1)
  have ⟨t0, t1, t2, t3⟩ := tt_a h0 h1
  have q1 := Lib.hid (show a * 3622009729038561421 / 64800000 ≤ 4611686018427387904 by omega)
  have q2 := Lib.hid (show a * 3622009729038561422 / 64800000 ≤ 4611686018427387904 by omega)
  go_enter Try.func18, Try.ntmps18
  go_wp2_with (first | (go_at_call 33; refine (mulDiv_pp a 3622009729038561421 64800000 _ h0 (by omega) (by omega) (by omega) (by omega) (by omega) q1.out).mono ?_; rintro e w' ⟨rfl, rfl⟩) | (go_at_call 34; refine (mulDivUp_pp a 3622009729038561422 64800000 _ h0 (by omega) (by omega) (by omega) (by omega) (by omega) q2.out).mono ?_; rintro e w' ⟨rfl, rfl⟩))
  rw [show a * 3622009729038561421 / 64800000 = tlo a from rfl, show -(-(a * 3622009729038561422) / 64800000) = thi a from rfl]
  go_loop [4, 5, 10, 11, 12] (fun lo hi pl ph k => ∃ j : Nat, j ≤ 9 ∧ lo = .int .i64 (ser1 a j).lo ∧ hi = .int .i64 (ser1 a j).hi ∧ pl = .int .i64 (ser1 a j).pl ∧ ph = .int .i64 (ser1 a j).ph ∧ k = .int .i64 ((j : Int) + 1)) (fun _ _ _ _ k => (10 - intOf k).toNat)
  case atStart => exact ⟨0, by omega, rfl, rfl, rfl, rfl, rfl⟩
  case round =>
    obtain ⟨j, hj, rfl, rfl, rfl, rfl, rfl⟩ := hrel
    obtain ⟨c0, c1, c2, c3, c4, c5, ⟨c6, c7, c8, c9⟩, d6, d7, d8, d9⟩ := HB.out j
    obtain ⟨e0, e1, e2, e3, e4, e5, ⟨e6, e7, e8, e9⟩, f6, f7, f8, f9⟩ := HB.out (j + 1)
    clear e6 e7 e8 e9 f6 f7 f8 f9

    obtain rfl | rfl | rfl | rfl | rfl | rfl | rfl | rfl | rfl | rfl : j = 0 ∨ j = 1 ∨ j = 2 ∨ j = 3 ∨ j = 4 ∨ j = 5 ∨ j = 6 ∨ j = 7 ∨ j = 8 ∨ j = 9 := by omega
    · have ⟨g1, g2, g3, g4⟩ := ser1_s0 a
      simp only [Nat.reduceAdd] at e0 e1 e2 e3 e4 e5
      rw [show ((0 : Nat) : Int) + 1 = 1 from rfl]
      rw [g2] at g3
      rw [g1] at g4
      rw [g1] at e0 e1
      rw [g2] at e1 e2
      rw [g3] at e3 e5
      rw [g4] at e4 e5
      have G1 := Lib.hid g1
      have G2 := Lib.hid g2
      have G3 := Lib.hid g3
      have G4 := Lib.hid g4
      clear g1 g2 g3 g4
      go_wp2_with (first | (go_at_call 35; refine (down_any _ _ _ (by omega) (by omega) (by omega) (by omega)).mono ?_; rintro e w' ⟨rfl, rfl⟩) | (go_at_call 36; refine (up_any _ _ _ (by omega) (by omega) (by omega) (by omega)).mono ?_; rintro e w' ⟨rfl, rfl⟩))
      go_round
      case rel => exact ⟨1, by omega, by rw [G3.out], by rw [G4.out], by rw [G1.out], by rw [G2.out], rfl⟩
      case measure => simp [intOf]
    · have ⟨g1, g2, g3, g4⟩ := ser1_s1 a
      simp only [Nat.reduceAdd] at e0 e1 e2 e3 e4 e5
      rw [show ((1 : Nat) : Int) + 1 = 2 from rfl]
      rw [g1] at g3
      rw [g2] at g4
      rw [g1] at e0 e1
      rw [g2] at e1 e2
      rw [g3] at e3 e5
      rw [g4] at e4 e5
      have G1 := Lib.hid g1
      have G2 := Lib.hid g2
      have G3 := Lib.hid g3
      have G4 := Lib.hid g4
      clear g1 g2 g3 g4
      go_wp2_with (first | (go_at_call 35; refine (down_any _ _ _ (by omega) (by omega) (by omega) (by omega)).mono ?_; rintro e w' ⟨rfl, rfl⟩) | (go_at_call 36; refine (up_any _ _ _ (by omega) (by omega) (by omega) (by omega)).mono ?_; rintro e w' ⟨rfl, rfl⟩))
      go_round
      case rel => exact ⟨2, by omega, by rw [G3.out], by rw [G4.out], by rw [G1.out], by rw [G2.out], rfl⟩
      case measure => simp [intOf]
    · have ⟨g1, g2, g3, g4⟩ := ser1_s2 a
      simp only [Nat.reduceAdd] at e0 e1 e2 e3 e4 e5
      rw [show ((2 : Nat) : Int) + 1 = 3 from rfl]
      rw [g2] at g3
      rw [g1] at g4
      rw [g1] at e0 e1
      rw [g2] at e1 e2
      rw [g3] at e3 e5
      rw [g4] at e4 e5
      have G1 := Lib.hid g1
      have G2 := Lib.hid g2
      have G3 := Lib.hid g3
      have G4 := Lib.hid g4
      clear g1 g2 g3 g4
      go_wp2_with (first | (go_at_call 35; refine (down_any _ _ _ (by omega) (by omega) (by omega) (by omega)).mono ?_; rintro e w' ⟨rfl, rfl⟩) | (go_at_call 36; refine (up_any _ _ _ (by omega) (by omega) (by omega) (by omega)).mono ?_; rintro e w' ⟨rfl, rfl⟩))
      go_round
      case rel => exact ⟨3, by omega, by rw [G3.out], by rw [G4.out], by rw [G1.out], by rw [G2.out], rfl⟩
      case measure => simp [intOf]
    · have ⟨g1, g2, g3, g4⟩ := ser1_s3 a
      simp only [Nat.reduceAdd] at e0 e1 e2 e3 e4 e5
      rw [show ((3 : Nat) : Int) + 1 = 4 from rfl]
      rw [g1] at g3
      rw [g2] at g4
      rw [g1] at e0 e1
      rw [g2] at e1 e2
      rw [g3] at e3 e5
      rw [g4] at e4 e5
      have G1 := Lib.hid g1
      have G2 := Lib.hid g2
      have G3 := Lib.hid g3
      have G4 := Lib.hid g4
      clear g1 g2 g3 g4
      go_wp2_with (first | (go_at_call 35; refine (down_any _ _ _ (by omega) (by omega) (by omega) (by omega)).mono ?_; rintro e w' ⟨rfl, rfl⟩) | (go_at_call 36; refine (up_any _ _ _ (by omega) (by omega) (by omega) (by omega)).mono ?_; rintro e w' ⟨rfl, rfl⟩))
      go_round
      case rel => exact ⟨4, by omega, by rw [G3.out], by rw [G4.out], by rw [G1.out], by rw [G2.out], rfl⟩
      case measure => simp [intOf]
    · have ⟨g1, g2, g3, g4⟩ := ser1_s4 a
      simp only [Nat.reduceAdd] at e0 e1 e2 e3 e4 e5
      rw [show ((4 : Nat) : Int) + 1 = 5 from rfl]
      rw [g2] at g3
      rw [g1] at g4
      rw [g1] at e0 e1
      rw [g2] at e1 e2
      rw [g3] at e3 e5
      rw [g4] at e4 e5
      have G1 := Lib.hid g1
      have G2 := Lib.hid g2
      have G3 := Lib.hid g3
      have G4 := Lib.hid g4
      clear g1 g2 g3 g4
      go_wp2_with (first | (go_at_call 35; refine (down_any _ _ _ (by omega) (by omega) (by omega) (by omega)).mono ?_; rintro e w' ⟨rfl, rfl⟩) | (go_at_call 36; refine (up_any _ _ _ (by omega) (by omega) (by omega) (by omega)).mono ?_; rintro e w' ⟨rfl, rfl⟩))
      go_round
      case rel => exact ⟨5, by omega, by rw [G3.out], by rw [G4.out], by rw [G1.out], by rw [G2.out], rfl⟩
      case measure => simp [intOf]
    · have ⟨g1, g2, g3, g4⟩ := ser1_s5 a
      simp only [Nat.reduceAdd] at e0 e1 e2 e3 e4 e5
      rw [show ((5 : Nat) : Int) + 1 = 6 from rfl]
      rw [g1] at g3
      rw [g2] at g4
      rw [g1] at e0 e1
      rw [g2] at e1 e2
      rw [g3] at e3 e5
      rw [g4] at e4 e5
      have G1 := Lib.hid g1
      have G2 := Lib.hid g2
      have G3 := Lib.hid g3
      have G4 := Lib.hid g4
      clear g1 g2 g3 g4
      go_wp2_with (first | (go_at_call 35; refine (down_any _ _ _ (by omega) (by omega) (by omega) (by omega)).mono ?_; rintro e w' ⟨rfl, rfl⟩) | (go_at_call 36; refine (up_any _ _ _ (by omega) (by omega) (by omega) (by omega)).mono ?_; rintro e w' ⟨rfl, rfl⟩))
      go_round
      case rel => exact ⟨6, by omega, by rw [G3.out], by rw [G4.out], by rw [G1.out], by rw [G2.out], rfl⟩
      case measure => simp [intOf]
    · have ⟨g1, g2, g3, g4⟩ := ser1_s6 a
      simp only [Nat.reduceAdd] at e0 e1 e2 e3 e4 e5
      rw [show ((6 : Nat) : Int) + 1 = 7 from rfl]
      rw [g2] at g3
      rw [g1] at g4
      rw [g1] at e0 e1
      rw [g2] at e1 e2
      rw [g3] at e3 e5
      rw [g4] at e4 e5
      have G1 := Lib.hid g1
      have G2 := Lib.hid g2
      have G3 := Lib.hid g3
      have G4 := Lib.hid g4
      clear g1 g2 g3 g4
      go_wp2_with (first | (go_at_call 35; refine (down_any _ _ _ (by omega) (by omega) (by omega) (by omega)).mono ?_; rintro e w' ⟨rfl, rfl⟩) | (go_at_call 36; refine (up_any _ _ _ (by omega) (by omega) (by omega) (by omega)).mono ?_; rintro e w' ⟨rfl, rfl⟩))
      go_round
      case rel => exact ⟨7, by omega, by rw [G3.out], by rw [G4.out], by rw [G1.out], by rw [G2.out], rfl⟩
      case measure => simp [intOf]
    · have ⟨g1, g2, g3, g4⟩ := ser1_s7 a
      simp only [Nat.reduceAdd] at e0 e1 e2 e3 e4 e5
      rw [show ((7 : Nat) : Int) + 1 = 8 from rfl]
      rw [g1] at g3
      rw [g2] at g4
      rw [g1] at e0 e1
      rw [g2] at e1 e2
      rw [g3] at e3 e5
      rw [g4] at e4 e5
      have G1 := Lib.hid g1
      have G2 := Lib.hid g2
      have G3 := Lib.hid g3
      have G4 := Lib.hid g4
      clear g1 g2 g3 g4
      go_wp2_with (first | (go_at_call 35; refine (down_any _ _ _ (by omega) (by omega) (by omega) (by omega)).mono ?_; rintro e w' ⟨rfl, rfl⟩) | (go_at_call 36; refine (up_any _ _ _ (by omega) (by omega) (by omega) (by omega)).mono ?_; rintro e w' ⟨rfl, rfl⟩))
      go_round
      case rel => exact ⟨8, by omega, by rw [G3.out], by rw [G4.out], by rw [G1.out], by rw [G2.out], rfl⟩
      case measure => simp [intOf]
    · have ⟨g1, g2, g3, g4⟩ := ser1_s8 a
      simp only [Nat.reduceAdd] at e0 e1 e2 e3 e4 e5
      rw [show ((8 : Nat) : Int) + 1 = 9 from rfl]
      rw [g2] at g3
      rw [g1] at g4
      rw [g1] at e0 e1
      rw [g2] at e1 e2
      rw [g3] at e3 e5
      rw [g4] at e4 e5
      have G1 := Lib.hid g1
      have G2 := Lib.hid g2
      have G3 := Lib.hid g3
      have G4 := Lib.hid g4
      clear g1 g2 g3 g4
      go_wp2_with (first | (go_at_call 35; refine (down_any _ _ _ (by omega) (by omega) (by omega) (by omega)).mono ?_; rintro e w' ⟨rfl, rfl⟩) | (go_at_call 36; refine (up_any _ _ _ (by omega) (by omega) (by omega) (by omega)).mono ?_; rintro e w' ⟨rfl, rfl⟩))
      go_round
      case rel => exact ⟨9, by omega, by rw [G3.out], by rw [G4.out], by rw [G1.out], by rw [G2.out], rfl⟩
      case measure => simp [intOf]
    · rw [show ((9 : Nat) : Int) + 1 = 10 from rfl]
      go_wp2
      go_ret2
      exact ⟨rfl, rfl⟩
theorem ser0_s0 (a : Int) : (ser0 a 1).pl = fdn (fdn (ser0 a 0).pl (tlo a)) (tlo a) / 2 ∧ (ser0 a 1).ph = fup (fup (ser0 a 0).ph (thi a)) (thi a) / 2 + 1 ∧ (ser0 a 1).lo = (ser0 a 0).lo - (ser0 a 1).ph ∧ (ser0 a 1).hi = (ser0 a 0).hi - (ser0 a 1).pl := by
  exact ⟨rfl, rfl, rfl, rfl⟩
theorem ser0_s1 (a : Int) : (ser0 a 2).pl = fdn (fdn (ser0 a 1).pl (tlo a)) (tlo a) / 12 ∧ (ser0 a 2).ph = fup (fup (ser0 a 1).ph (thi a)) (thi a) / 12 + 1 ∧ (ser0 a 2).lo = (ser0 a 1).lo + (ser0 a 2).pl ∧ (ser0 a 2).hi = (ser0 a 1).hi + (ser0 a 2).ph := by
  exact ⟨rfl, rfl, rfl, rfl⟩
theorem ser0_s2 (a : Int) : (ser0 a 3).pl = fdn (fdn (ser0 a 2).pl (tlo a)) (tlo a) / 30 ∧ (ser0 a 3).ph = fup (fup (ser0 a 2).ph (thi a)) (thi a) / 30 + 1 ∧ (ser0 a 3).lo = (ser0 a 2).lo - (ser0 a 3).ph ∧ (ser0 a 3).hi = (ser0 a 2).hi - (ser0 a 3).pl := by
  exact ⟨rfl, rfl, rfl, rfl⟩
theorem ser0_s3 (a : Int) : (ser0 a 4).pl = fdn (fdn (ser0 a 3).pl (tlo a)) (tlo a) / 56 ∧ (ser0 a 4).ph = fup (fup (ser0 a 3).ph (thi a)) (thi a) / 56 + 1 ∧ (ser0 a 4).lo = (ser0 a 3).lo + (ser0 a 4).pl ∧ (ser0 a 4).hi = (ser0 a 3).hi + (ser0 a 4).ph := by
  exact ⟨rfl, rfl, rfl, rfl⟩
theorem ser0_s4 (a : Int) : (ser0 a 5).pl = fdn (fdn (ser0 a 4).pl (tlo a)) (tlo a) / 90 ∧ (ser0 a 5).ph = fup (fup (ser0 a 4).ph (thi a)) (thi a) / 90 + 1 ∧ (ser0 a 5).lo = (ser0 a 4).lo - (ser0 a 5).ph ∧ (ser0 a 5).hi = (ser0 a 4).hi - (ser0 a 5).pl := by
  exact ⟨rfl, rfl, rfl, rfl⟩
theorem ser0_s5 (a : Int) : (ser0 a 6).pl = fdn (fdn (ser0 a 5).pl (tlo a)) (tlo a) / 132 ∧ (ser0 a 6).ph = fup (fup (ser0 a 5).ph (thi a)) (thi a) / 132 + 1 ∧ (ser0 a 6).lo = (ser0 a 5).lo + (ser0 a 6).pl ∧ (ser0 a 6).hi = (ser0 a 5).hi + (ser0 a 6).ph := by
  exact ⟨rfl, rfl, rfl, rfl⟩
theorem ser0_s6 (a : Int) : (ser0 a 7).pl = fdn (fdn (ser0 a 6).pl (tlo a)) (tlo a) / 182 ∧ (ser0 a 7).ph = fup (fup (ser0 a 6).ph (thi a)) (thi a) / 182 + 1 ∧ (ser0 a 7).lo = (ser0 a 6).lo - (ser0 a 7).ph ∧ (ser0 a 7).hi = (ser0 a 6).hi - (ser0 a 7).pl := by
  exact ⟨rfl, rfl, rfl, rfl⟩
theorem ser0_s7 (a : Int) : (ser0 a 8).pl = fdn (fdn (ser0 a 7).pl (tlo a)) (tlo a) / 240 ∧ (ser0 a 8).ph = fup (fup (ser0 a 7).ph (thi a)) (thi a) / 240 + 1 ∧ (ser0 a 8).lo = (ser0 a 7).lo + (ser0 a 8).pl ∧ (ser0 a 8).hi = (ser0 a 7).hi + (ser0 a 8).ph := by
  exact ⟨rfl, rfl, rfl, rfl⟩
theorem ser0_s8 (a : Int) : (ser0 a 9).pl = fdn (fdn (ser0 a 8).pl (tlo a)) (tlo a) / 306 ∧ (ser0 a 9).ph = fup (fup (ser0 a 8).ph (thi a)) (thi a) / 306 + 1 ∧ (ser0 a 9).lo = (ser0 a 8).lo - (ser0 a 9).ph ∧ (ser0 a 9).hi = (ser0 a 8).hi - (ser0 a 9).pl := by
  exact ⟨rfl, rfl, rfl, rfl⟩
set_option maxHeartbeats 3200000 in
theorem real_0 (a : Int) (w : World) (h0 : 0 ≤ a) (h1 : a ≤ 16200000) :
    Calls Try.prog 18 #[.int .i64 a, .int .i64 0] w fun e w' => e = TwoI (ser0 a 9).lo ((ser0 a 9).hi + 1) ∧ w = w' := by
  have HB := Lib.hid (ser0_b h0 h1)
  have ⟨t0, t1, t2, t3⟩ := tt_a h0 h1
  have q1 := Lib.hid (show a * 3622009729038561421 / 64800000 ≤ 4611686018427387904 by omega)
  have q2 := Lib.hid (show a * 3622009729038561422 / 64800000 ≤ 4611686018427387904 by omega)
  go_enter Try.func18, Try.ntmps18
  go_wp2_with (first | (go_at_call 33; refine (mulDiv_pp a 3622009729038561421 64800000 _ h0 (by omega) (by omega) (by omega) (by omega) (by omega) q1.out).mono ?_; rintro e w' ⟨rfl, rfl⟩) | (go_at_call 34; refine (mulDivUp_pp a 3622009729038561422 64800000 _ h0 (by omega) (by omega) (by omega) (by omega) (by omega) q2.out).mono ?_; rintro e w' ⟨rfl, rfl⟩))
  rw [show a * 3622009729038561421 / 64800000 = tlo a from rfl, show -(-(a * 3622009729038561422) / 64800000) = thi a from rfl]
  go_loop [4, 5, 10, 11, 12] (fun lo hi pl ph k => ∃ j : Nat, j ≤ 9 ∧ lo = .int .i64 (ser0 a j).lo ∧ hi = .int .i64 (ser0 a j).hi ∧ pl = .int .i64 (ser0 a j).pl ∧ ph = .int .i64 (ser0 a j).ph ∧ k = .int .i64 ((j : Int) + 1)) (fun _ _ _ _ k => (10 - intOf k).toNat)
  case atStart => exact ⟨0, by omega, rfl, rfl, rfl, rfl, rfl⟩
  case round =>
    obtain ⟨j, hj, rfl, rfl, rfl, rfl, rfl⟩ := hrel
    obtain ⟨c0, c1, c2, c3, c4, c5, ⟨c6, c7, c8, c9⟩, d6, d7, d8, d9⟩ := HB.out j
    obtain ⟨e0, e1, e2, e3, e4, e5, ⟨e6, e7, e8, e9⟩, f6, f7, f8, f9⟩ := HB.out (j + 1)
    clear e6 e7 e8 e9 f6 f7 f8 f9

    obtain rfl | rfl | rfl | rfl | rfl | rfl | rfl | rfl | rfl | rfl : j = 0 ∨ j = 1 ∨ j = 2 ∨ j = 3 ∨ j = 4 ∨ j = 5 ∨ j = 6 ∨ j = 7 ∨ j = 8 ∨ j = 9 := by omega
    · have ⟨g1, g2, g3, g4⟩ := ser0_s0 a
      simp only [Nat.reduceAdd] at e0 e1 e2 e3 e4 e5
      rw [show ((0 : Nat) : Int) + 1 = 1 from rfl]
      rw [g2] at g3
      rw [g1] at g4
      rw [g1] at e0 e1
      rw [g2] at e1 e2
      rw [g3] at e3 e5
      rw [g4] at e4 e5
      have G1 := Lib.hid g1
      have G2 := Lib.hid g2
      have G3 := Lib.hid g3
      have G4 := Lib.hid g4
      clear g1 g2 g3 g4
      go_wp2_with (first | (go_at_call 35; refine (down_any _ _ _ (by omega) (by omega) (by omega) (by omega)).mono ?_; rintro e w' ⟨rfl, rfl⟩) | (go_at_call 36; refine (up_any _ _ _ (by omega) (by omega) (by omega) (by omega)).mono ?_; rintro e w' ⟨rfl, rfl⟩))
      go_round
      case rel => exact ⟨1, by omega, by rw [G3.out], by rw [G4.out], by rw [G1.out], by rw [G2.out], rfl⟩
      case measure => simp [intOf]
    · have ⟨g1, g2, g3, g4⟩ := ser0_s1 a
      simp only [Nat.reduceAdd] at e0 e1 e2 e3 e4 e5
      rw [show ((1 : Nat) : Int) + 1 = 2 from rfl]
      rw [g1] at g3
      rw [g2] at g4
      rw [g1] at e0 e1
      rw [g2] at e1 e2
      rw [g3] at e3 e5
      rw [g4] at e4 e5
      have G1 := Lib.hid g1
      have G2 := Lib.hid g2
      have G3 := Lib.hid g3
      have G4 := Lib.hid g4
      clear g1 g2 g3 g4
      go_wp2_with (first | (go_at_call 35; refine (down_any _ _ _ (by omega) (by omega) (by omega) (by omega)).mono ?_; rintro e w' ⟨rfl, rfl⟩) | (go_at_call 36; refine (up_any _ _ _ (by omega) (by omega) (by omega) (by omega)).mono ?_; rintro e w' ⟨rfl, rfl⟩))
      go_round
      case rel => exact ⟨2, by omega, by rw [G3.out], by rw [G4.out], by rw [G1.out], by rw [G2.out], rfl⟩
      case measure => simp [intOf]
    · have ⟨g1, g2, g3, g4⟩ := ser0_s2 a
      simp only [Nat.reduceAdd] at e0 e1 e2 e3 e4 e5
      rw [show ((2 : Nat) : Int) + 1 = 3 from rfl]
      rw [g2] at g3
      rw [g1] at g4
      rw [g1] at e0 e1
      rw [g2] at e1 e2
      rw [g3] at e3 e5
      rw [g4] at e4 e5
      have G1 := Lib.hid g1
      have G2 := Lib.hid g2
      have G3 := Lib.hid g3
      have G4 := Lib.hid g4
      clear g1 g2 g3 g4
      go_wp2_with (first | (go_at_call 35; refine (down_any _ _ _ (by omega) (by omega) (by omega) (by omega)).mono ?_; rintro e w' ⟨rfl, rfl⟩) | (go_at_call 36; refine (up_any _ _ _ (by omega) (by omega) (by omega) (by omega)).mono ?_; rintro e w' ⟨rfl, rfl⟩))
      go_round
      case rel => exact ⟨3, by omega, by rw [G3.out], by rw [G4.out], by rw [G1.out], by rw [G2.out], rfl⟩
      case measure => simp [intOf]
    · have ⟨g1, g2, g3, g4⟩ := ser0_s3 a
      simp only [Nat.reduceAdd] at e0 e1 e2 e3 e4 e5
      rw [show ((3 : Nat) : Int) + 1 = 4 from rfl]
      rw [g1] at g3
      rw [g2] at g4
      rw [g1] at e0 e1
      rw [g2] at e1 e2
      rw [g3] at e3 e5
      rw [g4] at e4 e5
      have G1 := Lib.hid g1
      have G2 := Lib.hid g2
      have G3 := Lib.hid g3
      have G4 := Lib.hid g4
      clear g1 g2 g3 g4
      go_wp2_with (first | (go_at_call 35; refine (down_any _ _ _ (by omega) (by omega) (by omega) (by omega)).mono ?_; rintro e w' ⟨rfl, rfl⟩) | (go_at_call 36; refine (up_any _ _ _ (by omega) (by omega) (by omega) (by omega)).mono ?_; rintro e w' ⟨rfl, rfl⟩))
      go_round
      case rel => exact ⟨4, by omega, by rw [G3.out], by rw [G4.out], by rw [G1.out], by rw [G2.out], rfl⟩
      case measure => simp [intOf]
    · have ⟨g1, g2, g3, g4⟩ := ser0_s4 a
      simp only [Nat.reduceAdd] at e0 e1 e2 e3 e4 e5
      rw [show ((4 : Nat) : Int) + 1 = 5 from rfl]
      rw [g2] at g3
      rw [g1] at g4
      rw [g1] at e0 e1
      rw [g2] at e1 e2
      rw [g3] at e3 e5
      rw [g4] at e4 e5
      have G1 := Lib.hid g1
      have G2 := Lib.hid g2
      have G3 := Lib.hid g3
      have G4 := Lib.hid g4
      clear g1 g2 g3 g4
      go_wp2_with (first | (go_at_call 35; refine (down_any _ _ _ (by omega) (by omega) (by omega) (by omega)).mono ?_; rintro e w' ⟨rfl, rfl⟩) | (go_at_call 36; refine (up_any _ _ _ (by omega) (by omega) (by omega) (by omega)).mono ?_; rintro e w' ⟨rfl, rfl⟩))
      go_round
      case rel => exact ⟨5, by omega, by rw [G3.out], by rw [G4.out], by rw [G1.out], by rw [G2.out], rfl⟩
      case measure => simp [intOf]
    · have ⟨g1, g2, g3, g4⟩ := ser0_s5 a
      simp only [Nat.reduceAdd] at e0 e1 e2 e3 e4 e5
      rw [show ((5 : Nat) : Int) + 1 = 6 from rfl]
      rw [g1] at g3
      rw [g2] at g4
      rw [g1] at e0 e1
      rw [g2] at e1 e2
      rw [g3] at e3 e5
      rw [g4] at e4 e5
      have G1 := Lib.hid g1
      have G2 := Lib.hid g2
      have G3 := Lib.hid g3
      have G4 := Lib.hid g4
      clear g1 g2 g3 g4
      go_wp2_with (first | (go_at_call 35; refine (down_any _ _ _ (by omega) (by omega) (by omega) (by omega)).mono ?_; rintro e w' ⟨rfl, rfl⟩) | (go_at_call 36; refine (up_any _ _ _ (by omega) (by omega) (by omega) (by omega)).mono ?_; rintro e w' ⟨rfl, rfl⟩))
      go_round
      case rel => exact ⟨6, by omega, by rw [G3.out], by rw [G4.out], by rw [G1.out], by rw [G2.out], rfl⟩
      case measure => simp [intOf]
    · have ⟨g1, g2, g3, g4⟩ := ser0_s6 a
      simp only [Nat.reduceAdd] at e0 e1 e2 e3 e4 e5
      rw [show ((6 : Nat) : Int) + 1 = 7 from rfl]
      rw [g2] at g3
      rw [g1] at g4
      rw [g1] at e0 e1
      rw [g2] at e1 e2
      rw [g3] at e3 e5
      rw [g4] at e4 e5
      have G1 := Lib.hid g1
      have G2 := Lib.hid g2
      have G3 := Lib.hid g3
      have G4 := Lib.hid g4
      clear g1 g2 g3 g4
      go_wp2_with (first | (go_at_call 35; refine (down_any _ _ _ (by omega) (by omega) (by omega) (by omega)).mono ?_; rintro e w' ⟨rfl, rfl⟩) | (go_at_call 36; refine (up_any _ _ _ (by omega) (by omega) (by omega) (by omega)).mono ?_; rintro e w' ⟨rfl, rfl⟩))
      go_round
      case rel => exact ⟨7, by omega, by rw [G3.out], by rw [G4.out], by rw [G1.out], by rw [G2.out], rfl⟩
      case measure => simp [intOf]
    · have ⟨g1, g2, g3, g4⟩ := ser0_s7 a
      simp only [Nat.reduceAdd] at e0 e1 e2 e3 e4 e5
      rw [show ((7 : Nat) : Int) + 1 = 8 from rfl]
      rw [g1] at g3
      rw [g2] at g4
      rw [g1] at e0 e1
      rw [g2] at e1 e2
      rw [g3] at e3 e5
      rw [g4] at e4 e5
      have G1 := Lib.hid g1
      have G2 := Lib.hid g2
      have G3 := Lib.hid g3
      have G4 := Lib.hid g4
      clear g1 g2 g3 g4
      go_wp2_with (first | (go_at_call 35; refine (down_any _ _ _ (by omega) (by omega) (by omega) (by omega)).mono ?_; rintro e w' ⟨rfl, rfl⟩) | (go_at_call 36; refine (up_any _ _ _ (by omega) (by omega) (by omega) (by omega)).mono ?_; rintro e w' ⟨rfl, rfl⟩))
      go_round
      case rel => exact ⟨8, by omega, by rw [G3.out], by rw [G4.out], by rw [G1.out], by rw [G2.out], rfl⟩
      case measure => simp [intOf]
    · have ⟨g1, g2, g3, g4⟩ := ser0_s8 a
      simp only [Nat.reduceAdd] at e0 e1 e2 e3 e4 e5
      rw [show ((8 : Nat) : Int) + 1 = 9 from rfl]
      rw [g2] at g3
      rw [g1] at g4
      rw [g1] at e0 e1
      rw [g2] at e1 e2
      rw [g3] at e3 e5
      rw [g4] at e4 e5
      have G1 := Lib.hid g1
      have G2 := Lib.hid g2
      have G3 := Lib.hid g3
      have G4 := Lib.hid g4
      clear g1 g2 g3 g4
      go_wp2_with (first | (go_at_call 35; refine (down_any _ _ _ (by omega) (by omega) (by omega) (by omega)).mono ?_; rintro e w' ⟨rfl, rfl⟩) | (go_at_call 36; refine (up_any _ _ _ (by omega) (by omega) (by omega) (by omega)).mono ?_; rintro e w' ⟨rfl, rfl⟩))
      go_round
      case rel => exact ⟨9, by omega, by rw [G3.out], by rw [G4.out], by rw [G1.out], by rw [G2.out], rfl⟩
      case measure => simp [intOf]
    · rw [show ((9 : Nat) : Int) + 1 = 10 from rfl]
      go_wp2
      go_ret2
      exact ⟨rfl, rfl⟩
end Go.Proofs.Ytdbklfledjaklaa
