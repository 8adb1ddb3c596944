/- The square root of package fixed, and the reference's: each returns the greatest number whose square is not above. -/
import Derived.Test.YtgabdnabcpdinaaTrigX
import Derived.Test.YtgabdnabcpdinaaTrigP4
import Derived.Test.YtgabdnabcpdinaaLen64
namespace Go.Proofs.Ytgabdnabcpdinaa
open Go.RowKit Fdk
set_option linter.unusedVariables false

theorem lt_bitLen : ∀ (f x : Nat), x < 2 ^ f → x < 2 ^ (Lib.bitLenAux f x) := by
  intro f
  induction f with
  | zero => intro x h; simpa [Lib.bitLenAux] using h
  | succ f ih =>
    intro x h
    by_cases h0 : x = 0
    · subst h0; simp [Lib.bitLenAux]
    · have := ih (x / 2) (by rw [Nat.pow_succ] at h; omega)
      simp only [Lib.bitLenAux, h0, if_false, Nat.pow_add]
      omega
/-- the first guess. -/
theorem guess (n : Int) (h0 : 1 ≤ n) (h1 : n ≤ 9223372036854775807) : Lib.bitLen n.toNat ≤ 63 ∧ n < ((2 : Int) ^ ((Lib.bitLen n.toNat + 1) / 2) + 1) * ((2 : Int) ^ ((Lib.bitLen n.toNat + 1) / 2) + 1) ∧ 1 ≤ (2 : Int) ^ ((Lib.bitLen n.toNat + 1) / 2) ∧ (2 : Int) ^ ((Lib.bitLen n.toNat + 1) / 2) ≤ 4294967296 := by
  have l := Lib.bitLen_le n.toNat 63 (by omega) (by omega)
  have g : n.toNat < 2 ^ Lib.bitLen n.toNat := lt_bitLen 64 n.toNat (by omega)
  refine ⟨l, ?_⟩
  generalize Lib.bitLen n.toNat = b at *
  have g2 : n.toNat < 2 ^ ((b + 1) / 2) * 2 ^ ((b + 1) / 2) := by
    rw [← Nat.pow_add]
    exact Nat.lt_of_lt_of_le g (Nat.pow_le_pow_right (by omega) (by omega))
  have g3 : (2 : Nat) ^ ((b + 1) / 2) ≤ 2 ^ 32 := Nat.pow_le_pow_right (by omega) (by omega)
  have g4 : 1 ≤ (2 : Nat) ^ ((b + 1) / 2) := Nat.one_le_two_pow
  have e : ((2 : Int) ^ ((b + 1) / 2)) = ((2 ^ ((b + 1) / 2) : Nat) : Int) := by simp
  rw [e]
  generalize 2 ^ ((b + 1) / 2) = x at *
  have g5 : n < (x : Int) * x := by
    have : (n.toNat : Int) < ((x * x : Nat) : Int) := by omega
    rw [Int.natCast_mul] at this; omega
  have e2 : ((x : Int) + 1) * ((x : Int) + 1) = (x : Int) * x + 2 * x + 1 := by grind
  refine ⟨by rw [e2]; generalize (x : Int) * x = P at *; omega, by omega, by omega⟩
set_option maxHeartbeats 1600000 in
theorem sqrt_any (n : Int) (w : World) (h0 : 0 ≤ n) (h1 : n ≤ 9223372036854775807) :
    Calls Try.prog 56 #[.int .i64 n] w fun e w' => e = .returned (.int .i64 (isq n)) ∧ w = w' := by
  by_cases hz : n = 0
  · subst hz
    have HZ := Lib.hid isq_0
    go_enter Try.func56, Try.ntmps56
    go_wp2
    go_ret
    exact ⟨ret_i64 HZ.out.symm, rfl⟩
  have hn : 1 ≤ n := by omega
  clear hz
  obtain ⟨hl, hi, hx, hx2⟩ := guess n hn h1
  have HI := Lib.hid hi
  clear hi
  go_enter Try.func56, Try.ntmps56
  go_wp2_with fail
  refine (len64_any _ _ (by omega) (by omega)).mono ?_
  rintro e w' ⟨rfl, rfl⟩
  go_wp2
  go_loop [3] (fun x => ∃ z : Int, 1 ≤ z ∧ z ≤ 4294967296 ∧ x = .int .i64 z ∧ n < (z + 1) * (z + 1)) (fun x => (intOf x).toNat)
  case atStart => exact ⟨_, hx, hx2, rfl, HI.out⟩
  case round =>
    obtain ⟨z, z0, z1, rfl, hz⟩ := hrel
    have ⟨b0, b1, b2⟩ := newt_b hn z0 z1 h1
    have b3 := newt_q z0 hz
    have HN := Lib.hid (newt hn z0)
    have HE := Lib.hid (fun h => newt_end hn z0 (by omega) h hz)
    clear hz
    by_cases hlt : z ≤ (z + n / z) / 2
    · have HF := Lib.hid (HE.out hlt)
      clear HE
      go_wp2
      go_ret
      exact ⟨ret_i64 HF.out.symm, rfl⟩
    · go_wp2
      go_round
      case rel => exact ⟨_, b2, by omega, rfl, HN.out⟩
      case measure => simp [intOf]; omega

def pw2 (j : Nat) : Int := ((2 ^ j : Nat) : Int)
theorem pw2_0 : pw2 0 = 1 := rfl
theorem pw2_s (j : Nat) : pw2 (j + 1) = 2 * pw2 j := by unfold pw2; rw [Nat.pow_succ]; omega
theorem pw2_pos (j : Nat) : 1 ≤ pw2 j := by unfold pw2; have : 1 ≤ 2 ^ j := Nat.one_le_two_pow; omega
attribute [irreducible] pw2
set_option maxHeartbeats 1600000 in
theorem rsqrt_any (n : Int) (w : World) (h0 : 0 ≤ n) (h1 : n ≤ 9223372036854775807) :
    Calls Try.prog 62 #[.int .i64 n] w fun e w' => e = .returned (.int .i64 (isq n)) ∧ w = w' := by
  go_enter Try.func62, Try.ntmps62
  go_wp2
  go_loop [3, 4] (fun r b => ∃ (j : Nat) (z : Int), 0 ≤ z ∧ z + pw2 j ≤ 4294967296 ∧ z * z ≤ n ∧ n < (z + pw2 j) * (z + pw2 j) ∧ r = .int .u64 z ∧ b = .int .u64 (pw2 j / 2)) (fun _ b => (intOf b).toNat)
  case atStart => exact ⟨32, 0, by omega, by unfold pw2; decide, by omega, by unfold pw2; omega, rfl, by unfold pw2; rfl⟩
  case round =>
    obtain ⟨j, z, z0, z1, zl, zh, rfl, rfl⟩ := hrel
    have HL := Lib.hid zl
    have HH := Lib.hid zh
    clear zl zh
    obtain rfl | ⟨i, rfl⟩ : j = 0 ∨ ∃ i, j = i + 1 := by
      cases j
      · exact .inl rfl
      · exact .inr ⟨_, rfl⟩
    · have HF : Hid (isq n = z) := by
        rw [pw2_0] at z1
        have hh := HH.out
        rw [pw2_0] at hh
        exact isq_eq z0 (by omega) HL.out hh
      rw [pw2_0] at z1 ⊢
      go_wp2
      go_ret
      exact ⟨ret_i64 HF.out.symm, rfl⟩
    · have p0 := pw2_pos i
      have e2 : pw2 (i + 1) / 2 = pw2 i := by rw [pw2_s]; omega
      have hh := HH.out
      rw [pw2_s] at z1 hh
      rw [e2]
      have HH2 := Lib.hid hh
      clear hh HH e2
      have s0 : 0 ≤ (z + pw2 i) * (z + pw2 i) := Int.mul_nonneg (by omega) (by omega)
      have s1 : (z + pw2 i) * (z + pw2 i) ≤ 4294967295 * 4294967295 := sq_le (by omega) (by omega)
      by_cases ht : (z + pw2 i) * (z + pw2 i) ≤ n
      · go_wp2
        go_round
        case rel => exact ⟨i, z + pw2 i, by omega, by omega, ht, by rw [show z + pw2 i + pw2 i = z + 2 * pw2 i by omega]; exact HH2.out, rfl, rfl⟩
        case measure => simp [intOf]; omega
      · go_wp2
        go_round
        case rel => exact ⟨i, z, by omega, by omega, HL.out, by omega, rfl, rfl⟩
        case measure => simp [intOf]; omega
end Go.Proofs.Ytgabdnabcpdinaa
