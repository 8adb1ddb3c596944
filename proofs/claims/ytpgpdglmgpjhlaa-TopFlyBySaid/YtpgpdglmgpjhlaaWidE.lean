/- Package wide: the root; line.length. -/
import Derived.Test.YtpgpdglmgpjhlaaWidD
import Derived.Test.YtpgpdglmgpjhlaaTrigP4
namespace Go.Proofs.Ytpgpdglmgpjhlaa
open Go.RowKit Go.Joins Fdk
set_option linter.unusedVariables false
theorem or_pow {r n : Nat} (h : 2 ^ (n + 1) ∣ r) (hr : r < 4294967296) (hn : n < 64) : bits .or .u64 (r : Int) ((2 : Int) ^ n) = ((r + 2 ^ n : Nat) : Int) := by
  obtain ⟨k, rfl⟩ := h
  have hp : (2 : Int) ^ n = ((2 ^ n : Nat) : Int) := (Int.natCast_pow 2 n).symm
  rw [hp]
  have hn2 : 2 ^ n ≤ 9223372036854775808 := Nat.pow_le_pow_right (by omega) (show n ≤ 63 by omega)
  have e1 : (BitVec.ofInt 64 ((2 ^ (n + 1) * k : Nat) : Int)).toNat = 2 ^ (n + 1) * k := by
    rw [BitVec.ofInt_natCast, BitVec.toNat_ofNat]; exact Nat.mod_eq_of_lt (by omega)
  have e2 : (BitVec.ofInt 64 ((2 ^ n : Nat) : Int)).toNat = 2 ^ n := by
    rw [BitVec.ofInt_natCast, BitVec.toNat_ofNat]; exact Nat.mod_eq_of_lt (by omega)
  show IntKind.u64.wrap ((BitVec.ofInt 64 ((2 ^ (n + 1) * k : Nat) : Int) ||| BitVec.ofInt 64 ((2 ^ n : Nat) : Int)).toNat : Int) = _
  rw [BitVec.toNat_or, e1, e2, IntKind.wrap_u64, ← Nat.two_pow_add_eq_or_of_lt (show 2 ^ n < 2 ^ (n + 1) by rw [Nat.pow_succ]; have := Nat.two_pow_pos n; omega)]
  omega
/-- what the root has found so far. -/
structure Rt (x r c : Nat) : Prop where
  dv : 2 ^ c ∣ r
  le : r * r ≤ x
  gt : x < (r + 2 ^ c) * (r + 2 ^ c)
set_option maxRecDepth 4000 in
set_option maxHeartbeats 4000000 in
theorem wsqrt_any (x : Nat) (w : World) (hx : x < 4611686018427387904) :
    Calls Try.prog 40 #[wdV 0 x] w fun e w' => (∃ r : Nat, e = .returned (.tuple #[.int .u64 r, .bool true]) ∧ r * r ≤ x ∧ x < (r + 1) * (r + 1)) ∧ Below w.heap.size w w' := by
  go_enter Try.func40, Try.ntmps40
  go_wp2_with fail
  have S := c2_new (w.alloc (.cells #[.int .i64 0, .int .u64 x] 60)) (.int .u64 0) (.int .u64 x) 78
  rw [show (w.alloc (.cells #[.int .i64 0, .int .u64 x] 60)).heap.size = w.heap.size + 1 by simp] at S
  have HB0 := Lib.hid (below_alloc2 w (.cells #[.int .i64 0, .int .u64 x] 60) (.cells #[.int .u64 0, .int .u64 x] 78))
  generalize (w.alloc (.cells #[.int .i64 0, .int .u64 x] 60)).alloc (.cells #[.int .u64 0, .int .u64 x] 78) = v at *
  generalize w.heap.size + 1 = bs at *
  go_loopw [5, 6] (fun s y wr => ∃ (r c : Nat), c ≤ 64 ∧ s = .int .u64 r ∧ y = .int .i64 ((c : Int) - 1) ∧ Rt x r c ∧ Below v.heap.size v wr) (fun _ y _ => (intOf y + 1).toNat)
  case atStart => exact ⟨0, 64, Nat.le_refl _, rfl, rfl, ⟨Nat.dvd_zero _, Nat.zero_le _, by rw [Nat.zero_add]; exact Nat.lt_of_lt_of_le hx (by decide)⟩, Below.refl _ _⟩
  case round =>
    obtain ⟨r, c, hc, rfl, rfl, hR, hb⟩ := hrel
    have HR := Lib.hid hR
    have HB := Lib.hid hb
    have S2 := S.next hb
    clear hR hb
    by_cases g1 : 0 < c
    · obtain ⟨n, rfl⟩ : ∃ n, c = n + 1 := ⟨c - 1, by omega⟩
      have e0 : ((n + 1 : Nat) : Int) - 1 = n := by omega
      have g2 : (n : Int) ≥ 0 := Int.natCast_nonneg n
      have g3 : (n : Int) ≤ 64 := by omega
      have g4 : ((n : Nat) : Int).toNat = n := by omega
      rw [e0]
      have hr : r < 2147483648 := by
        rcases Nat.lt_or_ge r 2147483648 with h | h
        · exact h
        · have := Nat.mul_le_mul h h; have := HR.out.le; omega
      have hp : 2 ^ n ≤ 9223372036854775808 := Nat.pow_le_pow_right (by omega) (show n ≤ 63 by omega)
      have hpz : (2 : Int) ^ n = ((2 ^ n : Nat) : Int) := (Int.natCast_pow 2 n).symm
      have ew : IntKind.u64.wrap ((2 : Int) ^ n) = (2 : Int) ^ n := by
        rw [IntKind.wrap_u64, hpz]
        generalize 2 ^ n = z at *
        omega
      have eo := or_pow HR.out.dv (by omega) (show n < 64 by omega)
      obtain ⟨t, ht⟩ : ∃ t, t = r + 2 ^ n := ⟨_, rfl⟩
      rw [← ht] at eo
      have HM := Lib.hid (fun w => mul64_all (t : Int) (t : Int) w (by omega) (by omega) (by omega) (by omega))
      obtain ⟨M, hM⟩ : ∃ M, M = t * t := ⟨_, rfl⟩
      have htt : (t : Int) * t = (M : Int) := by rw [hM]; exact (Int.natCast_mul t t).symm
      rw [htt] at HM
      have HMt := Lib.hid hM
      clear hM
      have HT := Lib.hid ht
      clear ht hpz hp htt
      obtain ⟨s0, s1, s2, s3, sl⟩ := id S2
      go_wp2_with fail
      refine (HM.out _).mono ?_
      rintro e w' ⟨rfl, rfl⟩
      go_wp2_with fail
      refine (scmp_any _ _ 0 x _).mono ?_
      rintro e w2 ⟨rfl, hb⟩
      have HB2 := Lib.hid (thn HB.out hb)
      clear hb s0 s1 s2 s3 sl S2
      by_cases hle : M ≤ x
      · have hs : scm ((M : Int) / 18446744073709551616) ((M : Int) % 18446744073709551616) 0 x ≤ 0 := by
          unfold scm sgn; rw [if_pos (by omega)]; split
          · omega
          · rw [if_neg (by omega)]; omega
        generalize scm ((M : Int) / 18446744073709551616) ((M : Int) % 18446744073709551616) 0 x = sg at *
        go_wp2_with fail
        refine ⟨⟨t, n, by omega, rfl, rfl, ⟨?_, HMt.out ▸ hle, ?_⟩, HB2.out⟩, by simp [intOf]⟩
        · rw [HT.out]; exact Nat.dvd_add (Nat.dvd_trans (Nat.pow_dvd_pow 2 (Nat.le_succ n)) HR.out.dv) (Nat.dvd_refl _)
        · have := HR.out.gt
          rw [HT.out, show r + 2 ^ n + 2 ^ n = r + 2 ^ (n + 1) by rw [Nat.pow_succ]; omega]; exact this
      · have hs : ¬ scm ((M : Int) / 18446744073709551616) ((M : Int) % 18446744073709551616) 0 x ≤ 0 := by
          unfold scm sgn; split
          · rw [if_neg (by omega), if_pos (by omega)]; omega
          · rw [if_neg (by omega), if_pos (by omega)]; omega
        generalize scm ((M : Int) / 18446744073709551616) ((M : Int) % 18446744073709551616) 0 x = sg at *
        go_wp2_with fail
        refine ⟨⟨r, n, by omega, rfl, rfl, ⟨Nat.dvd_trans (Nat.pow_dvd_pow 2 (Nat.le_succ n)) HR.out.dv, HR.out.le, ?_⟩, HB2.out⟩, by simp [intOf]⟩
        rw [← HT.out, ← HMt.out]; omega
    · obtain rfl : c = 0 := by omega
      have g2 : ¬ ((0 : Nat) : Int) - 1 ≥ 0 := by omega
      have HBB := Lib.hid (thn HB0.out HB.out)
      go_wp2_with fail
      go_ret2
      exact ⟨⟨r, rfl, HR.out.le, by have := HR.out.gt; rw [Nat.pow_zero] at this; exact this⟩, HBB.out⟩
end Go.Proofs.Ytpgpdglmgpjhlaa
