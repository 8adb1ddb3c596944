/- line.length. -/
import Derived.Test.YtpgpdglmgpjhlaaWidE
namespace Go.Proofs.Ytpgpdglmgpjhlaa
open Go.RowKit Go.Joins Fdk
set_option linter.unusedVariables false
/-- the root of n*n/s, with n's sign. -/
def lnv (n s : Int) : Int := if n < 0 then -isq (n * n / s) else isq (n * n / s)
theorem length_any (n s : Int) (w : World) (h0 : -1152921504606846976 ≤ n) (h1 : n ≤ 1152921504606846976) (s0 : 0 < s) (s1 : s < 4611686018427387904) (hq : n * n / s < 4611686018427387904) :
    Calls Try.prog 25 #[.int .i64 n, .int .i64 s] w fun e w' => e = .returned (.int .i64 (lnv n s)) ∧ Below w.heap.size w w' := by
  have hn : 0 ≤ n * n := by
    rcases Int.lt_or_le n 0 with g | g
    · rw [← Int.neg_mul_neg]; exact Int.mul_nonneg (by omega) (by omega)
    · exact Int.mul_nonneg g g
  have hn2 : n * n ≤ 1329227995784915872903807060280344576 := by
    rcases Int.lt_or_le n 0 with g | g
    · rw [← Int.neg_mul_neg]; exact Int.mul_le_mul (show -n ≤ 1152921504606846976 by omega) (show -n ≤ 1152921504606846976 by omega) (by omega) (by omega)
    · exact Int.mul_le_mul h1 h1 g (by omega)
  obtain ⟨N, hN⟩ := Int.eq_ofNat_of_zero_le hn
  obtain ⟨D, hD⟩ := Int.eq_ofNat_of_zero_le (show 0 ≤ s by omega)
  have hQ : n * n / s = ((N / D : Nat) : Int) := by rw [hN, hD]; exact (Int.natCast_ediv N D).symm
  have hQ2 : N / D < 4611686018427387904 := by rw [hQ] at hq; omega
  have HM := Lib.hid (fun w => wmul_any n w (by omega) (by omega))
  have q1 : n * n / 18446744073709551616 = ((N / 18446744073709551616 : Nat) : Int) := by rw [hN]; omega
  have q2 : n * n % 18446744073709551616 = ((N % 18446744073709551616 : Nat) : Int) := by rw [hN]; omega
  rw [q1, q2] at HM
  have HO := Lib.hid (fun w => wof_any s w (by omega) (by omega))
  have hNN : N / 18446744073709551616 * 18446744073709551616 + N % 18446744073709551616 = N := by omega
  have HV := Lib.hid (fun w => wDiv_any (N / 18446744073709551616) (N % 18446744073709551616) D w (by omega) (by omega) (by omega) (by omega) (by rw [hNN]; exact hQ2))
  rw [hNN, ← hD] at HV
  have HS := Lib.hid (fun w => wsqrt_any (N / D) w hQ2)
  have HL : Hid (∀ r : Nat, r * r ≤ N / D → N / D < (r + 1) * (r + 1) → isq (n * n / s) = r ∧ r < 2147483648) := Lib.hid (fun r g1 g2 => by
    have hr : r < 2147483648 := by
      rcases Nat.lt_or_ge r 2147483648 with h | h
      · exact h
      · have := Nat.mul_le_mul h h; omega
    refine ⟨?_, hr⟩
    rw [hQ]
    exact isq_eq (by omega) (by omega) (by have := Int.natCast_mul r r; omega) (by
      have e : ((r : Int) + 1) * ((r : Int) + 1) = (((r + 1) * (r + 1) : Nat) : Int) := by rw [Int.natCast_mul]; rfl
      rw [e]; omega))
  generalize N / 18446744073709551616 = H at *
  generalize N % 18446744073709551616 = L at *
  generalize N / D = Q at *
  have HI := Lib.hid h0
  clear q1 q2 hn hn2 hN hQ hQ2 hNN hq hD s0 s1 h0 h1
  go_enter Try.func25, Try.ntmps25
  go_wp2_with fail
  refine (HM.out _).mono ?_
  rintro e w1 ⟨rfl, hb⟩
  have HB := Lib.hid hb
  clear hb HM
  go_wp2_with fail
  refine (HO.out _).mono ?_
  rintro e w2 ⟨rfl, hb⟩
  replace HB := Lib.hid (thn HB.out hb)
  clear hb HO
  go_wp2_with fail
  refine (HV.out _).mono ?_
  rintro e w3 ⟨rfl, hb⟩
  replace HB := Lib.hid (thn HB.out hb)
  clear hb HV
  go_wp2_with fail
  refine (HS.out _).mono ?_
  rintro e w4 ⟨⟨r, rfl, g1, g2⟩, hb⟩
  replace HB := Lib.hid (thn (alc HB.out _) hb)
  obtain ⟨hr, hr2⟩ := HL.out r g1 g2
  have HR := Lib.hid hr
  clear hb HS hr g1 g2 HL
  by_cases hn : n < 0
  · go_wp2_with fail
    go_ret
    exact ⟨ret_i64 (by unfold lnv; rw [if_pos (by omega), HR.out]), HB.out⟩
  · go_wp2_with fail
    go_ret
    exact ⟨ret_i64 (by unfold lnv; rw [if_neg (by omega), HR.out]), HB.out⟩
end Go.Proofs.Ytpgpdglmgpjhlaa
