/- sort.Search over tests that make memory; Level, Crossover. -/
import Derived.Test.YtfchbgcgdcoplaaAirA
namespace Go.Proofs.Ytfchbgcgdcoplaa
open Go.RowKit Go.Joins Fdk
set_option linter.unusedVariables false
/-- what is asked of the test. -/
def Asks_lev (b0 b1 N : Nat) (ok : Nat → Bool) (w : World) : Prop := ∀ i : Nat, i < N → ∀ w1, Below w.heap.size w w1 →
  Calls Try.prog 20 #[.int .i64 i, .pointer (some ⟨b0, 0, none⟩), .pointer (some ⟨b1, 0, none⟩)] w1 fun e w' => e = .returned (.bool (ok i)) ∧ Below w1.heap.size w1 w'
set_option maxHeartbeats 1600000 in
theorem search_lev (b0 b1 N : Nat) (ok : Nat → Bool) (w : World) (hn : N ≤ 1000000000) (H : Asks_lev b0 b1 N ok w) :
    Calls Try.prog 19 #[.int .i64 N, .func (Fn.func 20) #[] #[.pointer (some ⟨b0, 0, none⟩), .pointer (some ⟨b1, 0, none⟩)]] w fun e w' => (∃ a : Nat, a ≤ N ∧ e = .returned (.int .i64 a) ∧ (0 < a → ok (a - 1) = false) ∧ (a < N → ok a = true)) ∧ Below w.heap.size w w' := by
  go_enter Try.func19, Try.ntmps19
  go_wp2
  go_loopw [5, 6] (fun i j wr => ∃ a b : Nat, a ≤ b ∧ b ≤ N ∧ i = .int .i64 a ∧ j = .int .i64 b ∧ (0 < a → ok (a - 1) = false) ∧ (b < N → ok b = true) ∧ Below w.heap.size w wr) (fun i j _ => (intOf j).toNat - (intOf i).toNat)
  case atStart => exact ⟨0, N, Nat.zero_le _, Nat.le_refl _, rfl, rfl, fun h => absurd h (Nat.lt_irrefl _), fun h => absurd h (Nat.lt_irrefl _), Below.refl _ _⟩
  case round =>
    obtain ⟨a, b, hab, hbn, rfl, rfl, ha, hb, hd⟩ := hrel
    have HA := Lib.hid ha
    have HB := Lib.hid hb
    have HD := Lib.hid hd
    clear ha hb hd
    by_cases hlt : a < b
    · have e1 : ((a : Int) + (b : Int)) / 2 = (((a + b) / 2 : Nat) : Int) := by omega
      have l1 : a ≤ (a + b) / 2 := by omega
      have l2 : (a + b) / 2 < b := by omega
      have HE := Lib.hid e1
      clear e1
      go_wp2_with fail
      rw [HE.out]
      refine (H ((a + b) / 2) (by omega) _ HD.out).mono ?_
      rintro e w' ⟨rfl, hd2⟩
      have HD2 := Lib.hid (thn HD.out hd2)
      clear hd2
      cases hk : ok ((a + b) / 2)
      · have HK := Lib.hid hk
        clear hk
        go_wp2
        go_roundw
        case rel => exact ⟨(a + b) / 2 + 1, b, by omega, hbn, by rw [HE.out]; go_num, rfl, fun _ => by rw [Nat.add_sub_cancel]; exact HK.out, HB.out, HD2.out⟩
        case measure => simp [intOf]; omega
      · have HK := Lib.hid hk
        clear hk
        go_wp2
        go_roundw
        case rel => exact ⟨a, (a + b) / 2, l1, by omega, rfl, rfl, HA.out, fun _ => HK.out, HD2.out⟩
        case measure => simp [intOf]; omega
    · obtain hba : b = a := by omega
      rw [hba] at HB
      go_wp2
      go_ret
      exact ⟨⟨a, by omega, rfl, HA.out, HB.out⟩, HD.out⟩
/-- what is asked of the test. -/
def Asks_crs (b0 b1 b2 N : Nat) (ok : Nat → Bool) (w : World) : Prop := ∀ i : Nat, i < N → ∀ w1, Below w.heap.size w w1 →
  Calls Try.prog 21 #[.int .i64 i, .pointer (some ⟨b0, 0, none⟩), .pointer (some ⟨b1, 0, none⟩), .pointer (some ⟨b2, 0, none⟩)] w1 fun e w' => e = .returned (.bool (ok i)) ∧ Below w1.heap.size w1 w'
set_option maxHeartbeats 1600000 in
theorem search_crs (b0 b1 b2 N : Nat) (ok : Nat → Bool) (w : World) (hn : N ≤ 1000000000) (H : Asks_crs b0 b1 b2 N ok w) :
    Calls Try.prog 19 #[.int .i64 N, .func (Fn.func 21) #[] #[.pointer (some ⟨b0, 0, none⟩), .pointer (some ⟨b1, 0, none⟩), .pointer (some ⟨b2, 0, none⟩)]] w fun e w' => (∃ a : Nat, a ≤ N ∧ e = .returned (.int .i64 a) ∧ (0 < a → ok (a - 1) = false) ∧ (a < N → ok a = true)) ∧ Below w.heap.size w w' := by
  go_enter Try.func19, Try.ntmps19
  go_wp2
  go_loopw [5, 6] (fun i j wr => ∃ a b : Nat, a ≤ b ∧ b ≤ N ∧ i = .int .i64 a ∧ j = .int .i64 b ∧ (0 < a → ok (a - 1) = false) ∧ (b < N → ok b = true) ∧ Below w.heap.size w wr) (fun i j _ => (intOf j).toNat - (intOf i).toNat)
  case atStart => exact ⟨0, N, Nat.zero_le _, Nat.le_refl _, rfl, rfl, fun h => absurd h (Nat.lt_irrefl _), fun h => absurd h (Nat.lt_irrefl _), Below.refl _ _⟩
  case round =>
    obtain ⟨a, b, hab, hbn, rfl, rfl, ha, hb, hd⟩ := hrel
    have HA := Lib.hid ha
    have HB := Lib.hid hb
    have HD := Lib.hid hd
    clear ha hb hd
    by_cases hlt : a < b
    · have e1 : ((a : Int) + (b : Int)) / 2 = (((a + b) / 2 : Nat) : Int) := by omega
      have l1 : a ≤ (a + b) / 2 := by omega
      have l2 : (a + b) / 2 < b := by omega
      have HE := Lib.hid e1
      clear e1
      go_wp2_with fail
      rw [HE.out]
      refine (H ((a + b) / 2) (by omega) _ HD.out).mono ?_
      rintro e w' ⟨rfl, hd2⟩
      have HD2 := Lib.hid (thn HD.out hd2)
      clear hd2
      cases hk : ok ((a + b) / 2)
      · have HK := Lib.hid hk
        clear hk
        go_wp2
        go_roundw
        case rel => exact ⟨(a + b) / 2 + 1, b, by omega, hbn, by rw [HE.out]; go_num, rfl, fun _ => by rw [Nat.add_sub_cancel]; exact HK.out, HB.out, HD2.out⟩
        case measure => simp [intOf]; omega
      · have HK := Lib.hid hk
        clear hk
        go_wp2
        go_roundw
        case rel => exact ⟨a, (a + b) / 2, l1, by omega, rfl, rfl, HA.out, fun _ => HK.out, HD2.out⟩
        case measure => simp [intOf]; omega
    · obtain hba : b = a := by omega
      rw [hba] at HB
      go_wp2
      go_ret
      exact ⟨⟨a, by omega, rfl, HA.out, HB.out⟩, HD.out⟩
end Go.Proofs.Ytfchbgcgdcoplaa
