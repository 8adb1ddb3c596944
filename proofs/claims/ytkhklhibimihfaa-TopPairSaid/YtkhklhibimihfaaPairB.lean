/- The contracts of package constraint: sums, excess. -/
import Derived.Test.YtkhklhibimihfaaBase
import Derived.Test.YtkhklhibimihfaaPairP
import Derived.Handy
namespace Go.Proofs.Ytkhklhibimihfaa
open Go.RowKit Go.Joins Fdk
set_option linter.unusedVariables false
set_option maxHeartbeats 4000000 in
theorem between_any (p : Option Addr) (m d : Nat) (U D : Nat → Int) (i c : Nat) (w : World) (hS : S2 w p m d U D) (hm : m ≤ 64) (h0 : 0 < c) (hc : i + c ≤ m)
    (hU : ∀ k, k < m → (0 ≤ U k ∧ U k ≤ 1099511627776) ∧ (0 ≤ D k ∧ D k ≤ 1099511627776)) :
    Calls Try.prog 13 #[.slice p m d, .int .i64 i, .int .i64 ((i + c : Nat) : Int)] w fun e w' => e = .returned (.tuple #[.int .i64 (sm U i c), .int .i64 (sm D i c)]) ∧ Below w.heap.size w w' := by
  obtain ⟨b, off, rfl, hbw, hP⟩ := hS.el (by omega)
  have hcm := hS.cm (by omega)
  have hml : m ≤ d := hcm.1
  have hdm : d ≤ 9223372036854775807 := by have := hcm.2; unfold maxLen at this; omega
  have HP := Lib.hid hP
  have HU := Lib.hid hU
  clear hS hP hU hcm
  obtain ⟨j, hj⟩ : ∃ j, j = i + c := ⟨_, rfl⟩
  rw [← hj]
  have HJ := Lib.hid hj
  have k1 : i ≤ j := by omega
  have k2 : j ≤ d := by omega
  have k3 : (0 : Int) ≤ i := Int.natCast_nonneg i
  have k4 : (i : Int) ≤ j := by omega
  have k5 : (j : Int) ≤ d := by omega
  clear hj
  go_enter Try.func13, Try.ntmps13
  go_wp2_with fail
  have hji : j - i = c := by have := HJ.out; omega
  rw [hji]
  go_loopw [6, 7, 15] (fun r f s wr => ∃ k : Nat, k ≤ c ∧ r = .int .i64 (sm U i k) ∧ f = .int .i64 (sm D i k) ∧ s = .int .i64 k ∧ Below w.heap.size w wr) (fun _ _ s _ => c - (intOf s).toNat)
  case atStart => exact ⟨0, Nat.zero_le _, rfl, rfl, rfl, Below.refl _ _⟩
  case round =>
    obtain ⟨k, hk, rfl, rfl, rfl, hb⟩ := hrel
    have s1 := sum_b (i := i) (m := m) (fun t ht => (HU.out t ht).1) k (by omega)
    have s2 := sum_b (i := i) (m := m) (fun t ht => (HU.out t ht).2) k (by omega)
    by_cases g1 : k < c
    · have g2 : (k : Int) < c := by omega
      have g3 : (0 : Int) ≤ k := Int.natCast_nonneg k
      have hq := HP.out.next hbw hb (i + k) (by omega)
      rw [show off + (i + k) * 2 = off + i * 2 + k * 2 by omega] at hq
      obtain ⟨c0, c1⟩ := hq
      have u1 := HU.out (i + k) (by omega)
      have a1 : sm U i (k + 1) = sm U i k + U (i + k) := rfl
      have a3 : sm D i (k + 1) = sm D i k + D (i + k) := rfl
      have A1 := Lib.hid a1
      have A3 := Lib.hid a3
      have HB := Lib.hid (alc hb (.cells #[.int .i64 (U (i + k)), .int .i64 (D (i + k))] 35))
      have HK := Lib.hid hk
      clear hb hk a1 a3
      generalize sm U i k = X at *
      generalize sm D i k = Y at *
      generalize U (i + k) = x at *
      generalize D (i + k) = y at *
      have e1 : IntKind.i64.wrap (X + x) = X + x := IntWalk.i64_in _ (by omega)
      have e2 : IntKind.i64.wrap (Y + y) = Y + y := IntWalk.i64_in _ (by omega)
      clear s1 s2 u1
      go_wp2_with fail
      go_roundw
      case rel => exact ⟨k + 1, g1, by rw [A1.out], by rw [A3.out], rfl, HB.out⟩
      case measure => simp [intOf]; omega
    · have g2 : ¬ (k : Int) < c := by omega
      obtain rfl : k = c := by omega
      have HB := Lib.hid hb
      clear hb s1 s2
      go_wp2_with fail
      go_ret2
      exact ⟨rfl, HB.out⟩
end Go.Proofs.Ytkhklhibimihfaa
