/- The square root of package fixed, and the reference's: each returns the greatest number whose square is not above. -/
import Derived.Test.YtpgpdglmgpjhlaaTrigX
import Derived.Test.YtpgpdglmgpjhlaaTrigP4
import Derived.Test.YtpgpdglmgpjhlaaLen64
namespace Go.Proofs.Ytpgpdglmgpjhlaa
open Go.RowKit Fdk
set_option linter.unusedVariables false

theorem lt_bitLen : ∀ (f x : Nat), x < 2 ^ f → x < 2 ^ (Lib.bitLenAux f x) := by
  intro f
  induction f with
  | zero => intro x h; simpa [Lib.bitLenAux] using h
  | succ f ih =>
    intro x h
    by_cases h0 : x = 0
    · subst h0; simp [Lib.bitLenAux]
    · have := ih (x / 2) (by rw [Nat.pow_succ] at h; omega)
      simp only [Lib.bitLenAux, h0, if_false, Nat.pow_add]
      omega
/-- the first guess. -/
theorem guess (n : Int) (h0 : 1 ≤ n) (h1 : n ≤ 9223372036854775807) : Lib.bitLen n.toNat ≤ 63 ∧ n < ((2 : Int) ^ ((Lib.bitLen n.toNat + 1) / 2) + 1) * ((2 : Int) ^ ((Lib.bitLen n.toNat + 1) / 2) + 1) ∧ 1 ≤ (2 : Int) ^ ((Lib.bitLen n.toNat + 1) / 2) ∧ (2 : Int) ^ ((Lib.bitLen n.toNat + 1) / 2) ≤ 4294967296 := by
  have l := Lib.bitLen_le n.toNat 63 (by omega) (by omega)
  have g : n.toNat < 2 ^ Lib.bitLen n.toNat := lt_bitLen 64 n.toNat (by omega)
  refine ⟨l, ?_⟩
  generalize Lib.bitLen n.toNat = b at *
  have g2 : n.toNat < 2 ^ ((b + 1) / 2) * 2 ^ ((b + 1) / 2) := by
    rw [← Nat.pow_add]
    exact Nat.lt_of_lt_of_le g (Nat.pow_le_pow_right (by omega) (by omega))
  have g3 : (2 : Nat) ^ ((b + 1) / 2) ≤ 2 ^ 32 := Nat.pow_le_pow_right (by omega) (by omega)
  have g4 : 1 ≤ (2 : Nat) ^ ((b + 1) / 2) := Nat.one_le_two_pow
  have e : ((2 : Int) ^ ((b + 1) / 2)) = ((2 ^ ((b + 1) / 2) : Nat) : Int) := by simp
  rw [e]
  generalize 2 ^ ((b + 1) / 2) = x at *
  have g5 : n < (x : Int) * x := by
    have : (n.toNat : Int) < ((x * x : Nat) : Int) := by omega
    rw [Int.natCast_mul] at this; omega
  have e2 : ((x : Int) + 1) * ((x : Int) + 1) = (x : Int) * x + 2 * x + 1 := by grind
  refine ⟨by rw [e2]; generalize (x : Int) * x = P at *; omega, by omega, by omega⟩
set_option maxHeartbeats 1600000 in
theorem sqrt_any (n : Int) (w : World) (h0 : 0 ≤ n) (h1 : n ≤ 9223372036854775807) :
    Calls Try.prog 27 #[.int .i64 n] w fun e w' => e = .returned (.int .i64 (isq n)) ∧ w = w' := by
  by_cases hz : n = 0
  · subst hz
    have HZ := Lib.hid isq_0
    go_enter Try.func27, Try.ntmps27
    go_wp2
    go_ret
    exact ⟨ret_i64 HZ.out.symm, rfl⟩
  have hn : 1 ≤ n := by omega
  clear hz
  obtain ⟨hl, hi, hx, hx2⟩ := guess n hn h1
  have HI := Lib.hid hi
  clear hi
  go_enter Try.func27, Try.ntmps27
  go_wp2_with fail
  refine (len64_any _ _ (by omega) (by omega)).mono ?_
  rintro e w' ⟨rfl, rfl⟩
  go_wp2
  go_loop [3] (fun x => ∃ z : Int, 1 ≤ z ∧ z ≤ 4294967296 ∧ x = .int .i64 z ∧ n < (z + 1) * (z + 1)) (fun x => (intOf x).toNat)
  case atStart => exact ⟨_, hx, hx2, rfl, HI.out⟩
  case round =>
    obtain ⟨z, z0, z1, rfl, hz⟩ := hrel
    have ⟨b0, b1, b2⟩ := newt_b hn z0 z1 h1
    have b3 := newt_q z0 hz
    have HN := Lib.hid (newt hn z0)
    have HE := Lib.hid (fun h => newt_end hn z0 (by omega) h hz)
    clear hz
    by_cases hlt : z ≤ (z + n / z) / 2
    · have HF := Lib.hid (HE.out hlt)
      clear HE
      go_wp2
      go_ret
      exact ⟨ret_i64 HF.out.symm, rfl⟩
    · go_wp2
      go_round
      case rel => exact ⟨_, b2, by omega, rfl, HN.out⟩
      case measure => simp [intOf]; omega

end Go.Proofs.Ytpgpdglmgpjhlaa
