/- Package wide: long division. -/
import Derived.Test.YtpgpdglmgpjhlaaWidB
import Derived.Deep.RegionHeld3
namespace Go.Proofs.Ytpgpdglmgpjhlaa
open Go.RowKit Go.Joins Fdk
set_option linter.unusedVariables false
theorem and_63 {n : Nat} (h : n < 128) : bits .and .i64 (n : Int) 63 = ((n % 64 : Nat) : Int) := by
  have e1 : (BitVec.ofInt 64 (n : Int)).toNat = n := by
    rw [BitVec.ofInt_natCast, BitVec.toNat_ofNat]; exact Nat.mod_eq_of_lt (by omega)
  have e2 : (BitVec.ofInt 64 (63 : Int)).toNat = 63 := by decide
  show IntKind.i64.wrap ((BitVec.ofInt 64 (n : Int) &&& BitVec.ofInt 64 (63 : Int)).toNat : Int) = _
  rw [BitVec.toNat_and, e1, e2, show (63 : Nat) = 2 ^ 6 - 1 from rfl, Nat.and_two_pow_sub_one_eq_mod]
  exact IntWalk.i64_in _ (by omega)
/-- one step of the long division. -/
theorem div_step {P D b : Nat} (hD : 0 < D) (hb : b < 2) : ((2 * P + b) / D = (if 2 * (P % D) + b ≥ D then 2 * (P / D) + 1 else 2 * (P / D))) ∧ ((2 * P + b) % D = (if 2 * (P % D) + b ≥ D then 2 * (P % D) + b - D else 2 * (P % D) + b)) := by
  have h1 := Nat.div_add_mod P D
  have h2 := Nat.mod_lt P hD
  generalize P / D = Q at *
  generalize P % D = R at *
  have e : 2 * P + b = D * (2 * Q) + (2 * R + b) := by rw [← h1]; grind
  split
  · next h =>
    have e2 : 2 * P + b = D * (2 * Q + 1) + (2 * R + b - D) := by rw [e, Nat.mul_add, Nat.mul_one]; omega
    rw [e2]
    exact ⟨by rw [Nat.mul_add_div hD, Nat.div_eq_of_lt (by omega), Nat.add_zero], by rw [Nat.mul_add_mod, Nat.mod_eq_of_lt (by omega)]⟩
  · next h =>
    rw [e]
    exact ⟨by rw [Nat.mul_add_div hD, Nat.div_eq_of_lt (by omega), Nat.add_zero], by rw [Nat.mul_add_mod, Nat.mod_eq_of_lt (by omega)]⟩
theorem pow_step (T n : Nat) : T / 2 ^ n = 2 * (T / 2 ^ (n + 1)) + T / 2 ^ n % 2 := by
  rw [Nat.pow_succ, ← Nat.div_div_eq_div_mul]; omega
theorem bit_lo {h l n : Nat} (hn : n < 64) : (h * 18446744073709551616 + l) / 2 ^ n % 2 = l / 2 ^ (n % 64) % 2 := by
  rw [Nat.mod_eq_of_lt hn]
  have e : h * 18446744073709551616 = 2 ^ n * (h * 2 ^ (64 - n)) := by
    rw [show 18446744073709551616 = 2 ^ n * 2 ^ (64 - n) by rw [← Nat.pow_add, show n + (64 - n) = 64 by omega]]
    grind
  rw [e, Nat.mul_add_div (Nat.two_pow_pos n), show 64 - n = (63 - n) + 1 by omega, Nat.pow_succ]
  generalize 2 ^ (63 - n) = z
  generalize l / 2 ^ n = y
  rw [show h * (z * 2) = (h * z) * 2 by grind]
  omega
theorem bit_hi {h l n : Nat} (hn : 64 ≤ n) (hl : l < 18446744073709551616) : (h * 18446744073709551616 + l) / 2 ^ n % 2 = h / 2 ^ (n - 64) % 2 := by
  rw [show n = 64 + (n - 64) by omega, Nat.pow_add, ← Nat.div_div_eq_div_mul, show 64 + (n - 64) - 64 = n - 64 by omega]
  congr 2
  show (h * 18446744073709551616 + l) / 18446744073709551616 = h
  omega
set_option maxRecDepth 4000 in
set_option maxHeartbeats 4000000 in
theorem sover_any (h l D : Nat) (w : World) (hh : h < 9223372036854775808) (hl : l < 18446744073709551616) (d0 : 0 < D) (d1 : D < 4611686018427387904) (hq : (h * 18446744073709551616 + l) / D < 4611686018427387904) :
    Calls Try.prog 59 #[szV h l, szV 0 D] w fun e w' => e = .returned (.tuple #[szV 0 (((h * 18446744073709551616 + l) / D : Nat) : Int), szV 0 (((h * 18446744073709551616 + l) % D : Nat) : Int)]) ∧ Below w.heap.size w w' := by
  obtain ⟨T, hT⟩ : ∃ T, T = h * 18446744073709551616 + l := ⟨_, rfl⟩
  rw [← hT] at hq ⊢
  have HT := Lib.hid hT
  have HQ := Lib.hid hq
  have hTb : T / 2 ^ 128 = 0 := Nat.div_eq_of_lt (by omega)
  clear hT hq
  go_enter Try.func59, Try.ntmps59
  go_wp2_with fail
  have Sa := (((c2_new w (.int .u64 h) (.int .u64 l) 78).alc (.cells #[.int .u64 0, .int .u64 D] 78)).alc (.cells #[.int .u64 0, .int .u64 0] 78)).alc (.cells #[.int .u64 0, .int .u64 0] 78)
  have Sd := ((c2_new (w.alloc (.cells #[.int .u64 h, .int .u64 l] 78)) (.int .u64 0) (.int .u64 D) 78).alc (.cells #[.int .u64 0, .int .u64 0] 78)).alc (.cells #[.int .u64 0, .int .u64 0] 78)
  have Sq := (c2_new ((w.alloc (.cells #[.int .u64 h, .int .u64 l] 78)).alloc (.cells #[.int .u64 0, .int .u64 D] 78)) (.int .u64 0) (.int .u64 0) 78).alc (.cells #[.int .u64 0, .int .u64 0] 78)
  have Sr := c2_new (((w.alloc (.cells #[.int .u64 h, .int .u64 l] 78)).alloc (.cells #[.int .u64 0, .int .u64 D] 78)).alloc (.cells #[.int .u64 0, .int .u64 0] 78)) (.int .u64 0) (.int .u64 0) 78
  rw [show (w.alloc (.cells #[.int .u64 h, .int .u64 l] 78)).heap.size = w.heap.size + 1 by simp] at Sd
  rw [show ((w.alloc (.cells #[.int .u64 h, .int .u64 l] 78)).alloc (.cells #[.int .u64 0, .int .u64 D] 78)).heap.size = w.heap.size + 1 + 1 by simp] at Sq
  rw [show (((w.alloc (.cells #[.int .u64 h, .int .u64 l] 78)).alloc (.cells #[.int .u64 0, .int .u64 D] 78)).alloc (.cells #[.int .u64 0, .int .u64 0] 78)).heap.size = w.heap.size + 1 + 1 + 1 by simp] at Sr
  have HB := Lib.hid (alc (below_alloc3 w (.cells #[.int .u64 h, .int .u64 l] 78) (.cells #[.int .u64 0, .int .u64 D] 78) (.cells #[.int .u64 0, .int .u64 0] 78)) (.cells #[.int .u64 0, .int .u64 0] 78))
  generalize (((w.alloc (.cells #[.int .u64 h, .int .u64 l] 78)).alloc (.cells #[.int .u64 0, .int .u64 D] 78)).alloc (.cells #[.int .u64 0, .int .u64 0] 78)).alloc (.cells #[.int .u64 0, .int .u64 0] 78) = v at *
  have na : w.heap.size ≠ w.heap.size + 1 + 1 := by omega
  have nb : w.heap.size ≠ w.heap.size + 1 + 1 + 1 := by omega
  have nc : w.heap.size + 1 ≠ w.heap.size + 1 + 1 := by omega
  have nd : w.heap.size + 1 ≠ w.heap.size + 1 + 1 + 1 := by omega
  have ne : w.heap.size + 1 + 1 ≠ w.heap.size + 1 + 1 + 1 := by omega
  have lq : w.heap.size ≤ w.heap.size + 1 + 1 := by omega
  have lr : w.heap.size ≤ w.heap.size + 1 + 1 + 1 := by omega
  have HN := Lib.hid (And.intro na (And.intro nb (And.intro nc (And.intro nd (And.intro ne (And.intro lq lr))))))
  generalize w.heap.size + 1 + 1 + 1 = br at *
  generalize w.heap.size + 1 + 1 = bq at *
  generalize w.heap.size + 1 = bd at *
  obtain ⟨ba, hba⟩ : ∃ ba, ba = w.heap.size := ⟨_, rfl⟩
  clear na nb nc nd ne lq lr
  go_loopw [6] (fun s wr => ∃ c : Nat, c ≤ 128 ∧ s = .int .i64 ((c : Int) - 1) ∧ C2 wr w.heap.size (.int .u64 h) (.int .u64 l) ∧ C2 wr bd (.int .u64 0) (.int .u64 D) ∧ C2 wr bq (.int .u64 0) (.int .u64 ((T / 2 ^ c / D : Nat) : Int)) ∧ C2 wr br (.int .u64 0) (.int .u64 ((T / 2 ^ c % D : Nat) : Int)) ∧ Below w.heap.size w wr) (fun s _ => (intOf s + 1).toNat)
  case atStart =>
    refine ⟨128, Nat.le_refl _, rfl, Sa, Sd, ?_, ?_, HB.out⟩
    · rw [hTb, Nat.zero_div]; exact Sq
    · rw [hTb, Nat.zero_mod]; exact Sr
  case round =>
    clear Sa Sd Sq Sr HB hTb
    obtain ⟨c, hc, rfl, Sa, Sd, Sq, Sr, hb⟩ := hrel
    have HB := Lib.hid hb
    clear hb
    by_cases g1 : 0 < c
    · obtain ⟨n, rfl⟩ : ∃ n, c = n + 1 := ⟨c - 1, by omega⟩
      have e0 : ((n + 1 : Nat) : Int) - 1 = n := by omega
      have g2 : (n : Int) ≥ 0 := Int.natCast_nonneg n
      rw [e0]
      obtain ⟨b, hbt⟩ : ∃ b, b = T / 2 ^ n % 2 := ⟨_, rfl⟩
      have hb2 : b < 2 := by omega
      have hst := div_step (P := T / 2 ^ (n + 1)) (D := D) (b := b) d0 hb2
      rw [hbt, ← pow_step T n, ← hbt] at hst
      have hqb : T / 2 ^ (n + 1) / D ≤ T / D := Nat.div_le_div_right (Nat.div_le_self _ _)
      have hrb : T / 2 ^ (n + 1) % D < D := Nat.mod_lt _ d0
      have hqn : T / 2 ^ n / D ≤ T / D := Nat.div_le_div_right (Nat.div_le_self _ _)
      have HBt := Lib.hid hbt
      obtain ⟨Q, hQ⟩ : ∃ Q, T / 2 ^ (n + 1) / D = Q := ⟨_, rfl⟩
      obtain ⟨R, hR⟩ : ∃ R, T / 2 ^ (n + 1) % D = R := ⟨_, rfl⟩
      rw [hQ] at hst hqb Sq
      rw [hR] at hst hrb Sr
      have HSt := Lib.hid hst
      have hQ2 : Q < 4611686018427387904 := by have := HQ.out; omega
      have HQn : Hid (T / 2 ^ n / D < 4611686018427387904) := Lib.hid (by have := HQ.out; omega)
      clear hbt hst hqb hqn hQ hR
      have em := and_63 (n := n) (by omega)
      have m0 : (0 : Int) ≤ ((n % 64 : Nat) : Int) := Int.natCast_nonneg _
      have m1 : ((n % 64 : Nat) : Int) ≤ 64 := by omega
      have mt : ((n % 64 : Nat) : Int).toNat = n % 64 := by omega
      obtain ⟨a0, a1, a2_, a3, al⟩ := id Sa
      obtain ⟨d0, d1, d2_, d3, dl⟩ := id Sd
      obtain ⟨q0, q1, q2_, q3, ql⟩ := id Sq
      obtain ⟨r0, r1, r2_, r3, rl⟩ := id Sr
      have na := Ne.symm HN.out.1
      have nb := Ne.symm HN.out.2.1
      have nc := Ne.symm HN.out.2.2.1
      have nd := Ne.symm HN.out.2.2.2.1
      have ne := Ne.symm HN.out.2.2.2.2.1
      have ne' := HN.out.2.2.2.2.1
      have na' := HN.out.1
      have nb' := HN.out.2.1
      have nc' := HN.out.2.2.1
      have nd' := HN.out.2.2.2.1
      by_cases g3 : n < 64
      · have g4 : ¬ (n : Int) ≥ 64 := by omega
        have ex : bits .and .u64 ((l : Int) / 2 ^ (n % 64)) 1 = b := by
          rw [HBt.out, HT.out, bit_lo g3]
          have q0 : (l : Int) / 2 ^ (n % 64) = ((l / 2 ^ (n % 64) : Nat) : Int) := by rw [Int.natCast_ediv]; rfl
          have q1 : l / 2 ^ (n % 64) ≤ l := Nat.div_le_self _ _
          rw [q0]
          generalize l / 2 ^ (n % 64) = z at *
          rw [and_one (by omega) (by omega)]
          omega
        go_wp2_with fail
        refine (stwice_any R b _ (by omega) (by omega) (by omega) (by omega)).mono ?_
        rintro e w1 ⟨rfl, hb⟩
        clear a0 a1 a2_ a3 al d0 d1 d2_ d3 dl q0 q1 q2_ q3 ql r0 r1 r2_ r3 rl
        replace Sa := Sa.next hb
        replace Sd := Sd.next hb
        replace Sq := Sq.next hb
        replace Sr := Sr.next hb
        replace HB := Lib.hid (thn HB.out hb)
        clear hb
        obtain ⟨a0, a1, a2_, a3, al⟩ := id Sa
        obtain ⟨d0, d1, d2_, d3, dl⟩ := id Sd
        obtain ⟨q0, q1, q2_, q3, ql⟩ := id Sq
        obtain ⟨r0, r1, r2_, r3, rl⟩ := id Sr
        go_wp2_with fail
        clear a0 a1 a2_ a3 al d0 d1 d2_ d3 dl q0 q1 q2_ q3 ql r0 r1 r2_ r3 rl
        replace Sa := (Sa.else (p := ⟨br, 0, none⟩) nb (.int .u64 (0))).else (p := ⟨br, 1, none⟩) nb (.int .u64 ((R : Int) * 2 + b))
        replace Sd := (Sd.else (p := ⟨br, 0, none⟩) nd (.int .u64 (0))).else (p := ⟨br, 1, none⟩) nd (.int .u64 ((R : Int) * 2 + b))
        replace Sq := (Sq.else (p := ⟨br, 0, none⟩) ne (.int .u64 (0))).else (p := ⟨br, 1, none⟩) ne (.int .u64 ((R : Int) * 2 + b))
        replace Sr := Sr.put (.int .u64 (0)) (.int .u64 ((R : Int) * 2 + b))
        replace HB := Lib.hid ((HB.out.setCell (p := ⟨br, 0, none⟩) (HN.out.2.2.2.2.2.2) (.int .u64 (0))).setCell (p := ⟨br, 1, none⟩) (HN.out.2.2.2.2.2.2) (.int .u64 ((R : Int) * 2 + b)))
        generalize (w1.setCell ⟨br, 0, none⟩ (.int .u64 (0))).setCell ⟨br, 1, none⟩ (.int .u64 ((R : Int) * 2 + b)) = u1 at *
        obtain ⟨a0, a1, a2_, a3, al⟩ := id Sa
        obtain ⟨d0, d1, d2_, d3, dl⟩ := id Sd
        obtain ⟨q0, q1, q2_, q3, ql⟩ := id Sq
        obtain ⟨r0, r1, r2_, r3, rl⟩ := id Sr
        refine (stwice_any Q 0 _ (by omega) (by omega) (by omega) (by omega)).mono ?_
        rw [Int.add_zero]
        rintro e w2 ⟨rfl, hb⟩
        clear a0 a1 a2_ a3 al d0 d1 d2_ d3 dl q0 q1 q2_ q3 ql r0 r1 r2_ r3 rl
        replace Sa := Sa.next hb
        replace Sd := Sd.next hb
        replace Sq := Sq.next hb
        replace Sr := Sr.next hb
        replace HB := Lib.hid (thn HB.out hb)
        clear hb
        obtain ⟨a0, a1, a2_, a3, al⟩ := id Sa
        obtain ⟨d0, d1, d2_, d3, dl⟩ := id Sd
        obtain ⟨q0, q1, q2_, q3, ql⟩ := id Sq
        obtain ⟨r0, r1, r2_, r3, rl⟩ := id Sr
        go_wp2_with fail
        clear a0 a1 a2_ a3 al d0 d1 d2_ d3 dl q0 q1 q2_ q3 ql r0 r1 r2_ r3 rl
        replace Sa := (Sa.else (p := ⟨bq, 0, none⟩) na (.int .u64 (0))).else (p := ⟨bq, 1, none⟩) na (.int .u64 ((Q : Int) * 2))
        replace Sd := (Sd.else (p := ⟨bq, 0, none⟩) nc (.int .u64 (0))).else (p := ⟨bq, 1, none⟩) nc (.int .u64 ((Q : Int) * 2))
        replace Sq := Sq.put (.int .u64 (0)) (.int .u64 ((Q : Int) * 2))
        replace Sr := (Sr.else (p := ⟨bq, 0, none⟩) ne' (.int .u64 (0))).else (p := ⟨bq, 1, none⟩) ne' (.int .u64 ((Q : Int) * 2))
        replace HB := Lib.hid ((HB.out.setCell (p := ⟨bq, 0, none⟩) (HN.out.2.2.2.2.2.1) (.int .u64 (0))).setCell (p := ⟨bq, 1, none⟩) (HN.out.2.2.2.2.2.1) (.int .u64 ((Q : Int) * 2)))
        generalize (w2.setCell ⟨bq, 0, none⟩ (.int .u64 (0))).setCell ⟨bq, 1, none⟩ (.int .u64 ((Q : Int) * 2)) = u2 at *
        obtain ⟨a0, a1, a2_, a3, al⟩ := id Sa
        obtain ⟨d0, d1, d2_, d3, dl⟩ := id Sd
        obtain ⟨q0, q1, q2_, q3, ql⟩ := id Sq
        obtain ⟨r0, r1, r2_, r3, rl⟩ := id Sr
        refine (scmp_any 0 ((R : Int) * 2 + b) 0 D _).mono ?_
        rintro e w3 ⟨rfl, hb⟩
        clear a0 a1 a2_ a3 al d0 d1 d2_ d3 dl q0 q1 q2_ q3 ql r0 r1 r2_ r3 rl
        replace Sa := Sa.next hb
        replace Sd := Sd.next hb
        replace Sq := Sq.next hb
        replace Sr := Sr.next hb
        replace HB := Lib.hid (thn HB.out hb)
        clear hb
        obtain ⟨a0, a1, a2_, a3, al⟩ := id Sa
        obtain ⟨d0, d1, d2_, d3, dl⟩ := id Sd
        obtain ⟨q0, q1, q2_, q3, ql⟩ := id Sq
        obtain ⟨r0, r1, r2_, r3, rl⟩ := id Sr
        by_cases hge : 2 * R + b ≥ D
        · have hsg : ¬ scm 0 ((R : Int) * 2 + b) 0 D < 0 := by unfold scm sgn; rw [if_pos rfl, if_neg (by omega)]; split <;> omega
          have hsg2 : scm 0 ((R : Int) * 2 + b) 0 D ≥ 0 := by omega
          have eo := or_bit (R := Q) (b := 1) (by omega) (by omega) (by omega) (by omega)
          generalize scm 0 ((R : Int) * 2 + b) 0 D = sg at *
          go_wp2_with fail
          refine (sless_any ((R : Int) * 2 + b) D _ (by omega) (by omega) (by omega)).mono ?_
          rintro e w4 ⟨rfl, hb⟩
          clear a0 a1 a2_ a3 al d0 d1 d2_ d3 dl q0 q1 q2_ q3 ql r0 r1 r2_ r3 rl
          replace Sa := Sa.next hb
          replace Sd := Sd.next hb
          replace Sq := Sq.next hb
          replace Sr := Sr.next hb
          replace HB := Lib.hid (thn HB.out hb)
          clear hb
          obtain ⟨a0, a1, a2_, a3, al⟩ := id Sa
          obtain ⟨d0, d1, d2_, d3, dl⟩ := id Sd
          obtain ⟨q0, q1, q2_, q3, ql⟩ := id Sq
          obtain ⟨r0, r1, r2_, r3, rl⟩ := id Sr
          go_wp2_with fail
          clear a0 a1 a2_ a3 al d0 d1 d2_ d3 dl q0 q1 q2_ q3 ql r0 r1 r2_ r3 rl
          replace Sa := (Sa.else (p := ⟨br, 0, none⟩) nb (.int .u64 (0))).else (p := ⟨br, 1, none⟩) nb (.int .u64 ((R : Int) * 2 + b - D))
          replace Sd := (Sd.else (p := ⟨br, 0, none⟩) nd (.int .u64 (0))).else (p := ⟨br, 1, none⟩) nd (.int .u64 ((R : Int) * 2 + b - D))
          replace Sq := (Sq.else (p := ⟨br, 0, none⟩) ne (.int .u64 (0))).else (p := ⟨br, 1, none⟩) ne (.int .u64 ((R : Int) * 2 + b - D))
          replace Sr := Sr.put (.int .u64 (0)) (.int .u64 ((R : Int) * 2 + b - D))
          replace HB := Lib.hid ((HB.out.setCell (p := ⟨br, 0, none⟩) (HN.out.2.2.2.2.2.2) (.int .u64 (0))).setCell (p := ⟨br, 1, none⟩) (HN.out.2.2.2.2.2.2) (.int .u64 ((R : Int) * 2 + b - D)))
          generalize (w4.setCell ⟨br, 0, none⟩ (.int .u64 (0))).setCell ⟨br, 1, none⟩ (.int .u64 ((R : Int) * 2 + b - D)) = u4 at *
          replace Sa := Sa.else (p := ⟨bq, 1, none⟩) na (.int .u64 ((Q : Int) * 2 + 1))
          replace Sd := Sd.else (p := ⟨bq, 1, none⟩) nc (.int .u64 ((Q : Int) * 2 + 1))
          replace Sq := Sq.put1 (.int .u64 ((Q : Int) * 2 + 1))
          replace Sr := Sr.else (p := ⟨bq, 1, none⟩) ne' (.int .u64 ((Q : Int) * 2 + 1))
          replace HB := Lib.hid (HB.out.setCell (p := ⟨bq, 1, none⟩) (HN.out.2.2.2.2.2.1) (.int .u64 ((Q : Int) * 2 + 1)))
          refine ⟨⟨n, by omega, rfl, Sa, Sd, ?_, ?_, HB.out⟩, by simp [intOf]⟩
          · rw [HSt.out.1, if_pos hge, show ((2 * Q + 1 : Nat) : Int) = (Q : Int) * 2 + 1 by omega]; exact Sq
          · rw [HSt.out.2, if_pos hge, show ((2 * R + b - D : Nat) : Int) = (R : Int) * 2 + b - D by omega]; exact Sr
        · have hsg2 : ¬ scm 0 ((R : Int) * 2 + b) 0 D ≥ 0 := by unfold scm sgn; rw [if_pos rfl, if_pos (by omega)]; omega
          generalize scm 0 ((R : Int) * 2 + b) 0 D = sg at *
          go_wp2_with fail
          refine ⟨⟨n, by omega, rfl, Sa, Sd, ?_, ?_, HB.out⟩, by simp [intOf]⟩
          · rw [HSt.out.1, if_neg hge, show ((2 * Q : Nat) : Int) = (Q : Int) * 2 by omega]; exact Sq
          · rw [HSt.out.2, if_neg hge, show ((2 * R + b : Nat) : Int) = (R : Int) * 2 + b by omega]; exact Sr
      · have g4 : (n : Int) ≥ 64 := by omega
        have q2 : l / 2 ^ (n % 64) ≤ l := Nat.div_le_self _ _
        have q3 : (l : Int) / 2 ^ (n % 64) = ((l / 2 ^ (n % 64) : Nat) : Int) := by rw [Int.natCast_ediv]; rfl
        have ex0 : bits .and .u64 ((l : Int) / 2 ^ (n % 64)) 1 = ((l / 2 ^ (n % 64) % 2 : Nat) : Int) := by
          rw [q3]
          generalize l / 2 ^ (n % 64) = z at *
          rw [and_one (by omega) (by omega)]
          omega
        have k0 : IntKind.i64.wrap ((n : Int) - 64) = ((n - 64 : Nat) : Int) := (IntWalk.i64_in _ (by omega)).trans (by omega)
        have k1 : (0 : Int) ≤ ((n - 64 : Nat) : Int) := Int.natCast_nonneg _
        have k2 : ((n - 64 : Nat) : Int) ≤ 64 := by omega
        have k3 : ((n - 64 : Nat) : Int).toNat = n - 64 := by omega
        have ex : bits .and .u64 ((h : Int) / 2 ^ (n - 64)) 1 = b := by
          rw [HBt.out, HT.out, bit_hi (by omega) hl]
          have q0 : (h : Int) / 2 ^ (n - 64) = ((h / 2 ^ (n - 64) : Nat) : Int) := by rw [Int.natCast_ediv]; rfl
          have q1 : h / 2 ^ (n - 64) ≤ h := Nat.div_le_self _ _
          rw [q0]
          generalize h / 2 ^ (n - 64) = z at *
          rw [and_one (by omega) (by omega)]
          omega
        clear q2 q3
        go_wp2_with fail
        refine (stwice_any R b _ (by omega) (by omega) (by omega) (by omega)).mono ?_
        rintro e w1 ⟨rfl, hb⟩
        clear a0 a1 a2_ a3 al d0 d1 d2_ d3 dl q0 q1 q2_ q3 ql r0 r1 r2_ r3 rl
        replace Sa := Sa.next hb
        replace Sd := Sd.next hb
        replace Sq := Sq.next hb
        replace Sr := Sr.next hb
        replace HB := Lib.hid (thn HB.out hb)
        clear hb
        obtain ⟨a0, a1, a2_, a3, al⟩ := id Sa
        obtain ⟨d0, d1, d2_, d3, dl⟩ := id Sd
        obtain ⟨q0, q1, q2_, q3, ql⟩ := id Sq
        obtain ⟨r0, r1, r2_, r3, rl⟩ := id Sr
        go_wp2_with fail
        clear a0 a1 a2_ a3 al d0 d1 d2_ d3 dl q0 q1 q2_ q3 ql r0 r1 r2_ r3 rl
        replace Sa := (Sa.else (p := ⟨br, 0, none⟩) nb (.int .u64 (0))).else (p := ⟨br, 1, none⟩) nb (.int .u64 ((R : Int) * 2 + b))
        replace Sd := (Sd.else (p := ⟨br, 0, none⟩) nd (.int .u64 (0))).else (p := ⟨br, 1, none⟩) nd (.int .u64 ((R : Int) * 2 + b))
        replace Sq := (Sq.else (p := ⟨br, 0, none⟩) ne (.int .u64 (0))).else (p := ⟨br, 1, none⟩) ne (.int .u64 ((R : Int) * 2 + b))
        replace Sr := Sr.put (.int .u64 (0)) (.int .u64 ((R : Int) * 2 + b))
        replace HB := Lib.hid ((HB.out.setCell (p := ⟨br, 0, none⟩) (HN.out.2.2.2.2.2.2) (.int .u64 (0))).setCell (p := ⟨br, 1, none⟩) (HN.out.2.2.2.2.2.2) (.int .u64 ((R : Int) * 2 + b)))
        generalize (w1.setCell ⟨br, 0, none⟩ (.int .u64 (0))).setCell ⟨br, 1, none⟩ (.int .u64 ((R : Int) * 2 + b)) = u1 at *
        obtain ⟨a0, a1, a2_, a3, al⟩ := id Sa
        obtain ⟨d0, d1, d2_, d3, dl⟩ := id Sd
        obtain ⟨q0, q1, q2_, q3, ql⟩ := id Sq
        obtain ⟨r0, r1, r2_, r3, rl⟩ := id Sr
        refine (stwice_any Q 0 _ (by omega) (by omega) (by omega) (by omega)).mono ?_
        rw [Int.add_zero]
        rintro e w2 ⟨rfl, hb⟩
        clear a0 a1 a2_ a3 al d0 d1 d2_ d3 dl q0 q1 q2_ q3 ql r0 r1 r2_ r3 rl
        replace Sa := Sa.next hb
        replace Sd := Sd.next hb
        replace Sq := Sq.next hb
        replace Sr := Sr.next hb
        replace HB := Lib.hid (thn HB.out hb)
        clear hb
        obtain ⟨a0, a1, a2_, a3, al⟩ := id Sa
        obtain ⟨d0, d1, d2_, d3, dl⟩ := id Sd
        obtain ⟨q0, q1, q2_, q3, ql⟩ := id Sq
        obtain ⟨r0, r1, r2_, r3, rl⟩ := id Sr
        go_wp2_with fail
        clear a0 a1 a2_ a3 al d0 d1 d2_ d3 dl q0 q1 q2_ q3 ql r0 r1 r2_ r3 rl
        replace Sa := (Sa.else (p := ⟨bq, 0, none⟩) na (.int .u64 (0))).else (p := ⟨bq, 1, none⟩) na (.int .u64 ((Q : Int) * 2))
        replace Sd := (Sd.else (p := ⟨bq, 0, none⟩) nc (.int .u64 (0))).else (p := ⟨bq, 1, none⟩) nc (.int .u64 ((Q : Int) * 2))
        replace Sq := Sq.put (.int .u64 (0)) (.int .u64 ((Q : Int) * 2))
        replace Sr := (Sr.else (p := ⟨bq, 0, none⟩) ne' (.int .u64 (0))).else (p := ⟨bq, 1, none⟩) ne' (.int .u64 ((Q : Int) * 2))
        replace HB := Lib.hid ((HB.out.setCell (p := ⟨bq, 0, none⟩) (HN.out.2.2.2.2.2.1) (.int .u64 (0))).setCell (p := ⟨bq, 1, none⟩) (HN.out.2.2.2.2.2.1) (.int .u64 ((Q : Int) * 2)))
        generalize (w2.setCell ⟨bq, 0, none⟩ (.int .u64 (0))).setCell ⟨bq, 1, none⟩ (.int .u64 ((Q : Int) * 2)) = u2 at *
        obtain ⟨a0, a1, a2_, a3, al⟩ := id Sa
        obtain ⟨d0, d1, d2_, d3, dl⟩ := id Sd
        obtain ⟨q0, q1, q2_, q3, ql⟩ := id Sq
        obtain ⟨r0, r1, r2_, r3, rl⟩ := id Sr
        refine (scmp_any 0 ((R : Int) * 2 + b) 0 D _).mono ?_
        rintro e w3 ⟨rfl, hb⟩
        clear a0 a1 a2_ a3 al d0 d1 d2_ d3 dl q0 q1 q2_ q3 ql r0 r1 r2_ r3 rl
        replace Sa := Sa.next hb
        replace Sd := Sd.next hb
        replace Sq := Sq.next hb
        replace Sr := Sr.next hb
        replace HB := Lib.hid (thn HB.out hb)
        clear hb
        obtain ⟨a0, a1, a2_, a3, al⟩ := id Sa
        obtain ⟨d0, d1, d2_, d3, dl⟩ := id Sd
        obtain ⟨q0, q1, q2_, q3, ql⟩ := id Sq
        obtain ⟨r0, r1, r2_, r3, rl⟩ := id Sr
        by_cases hge : 2 * R + b ≥ D
        · have hsg : ¬ scm 0 ((R : Int) * 2 + b) 0 D < 0 := by unfold scm sgn; rw [if_pos rfl, if_neg (by omega)]; split <;> omega
          have hsg2 : scm 0 ((R : Int) * 2 + b) 0 D ≥ 0 := by omega
          have eo := or_bit (R := Q) (b := 1) (by omega) (by omega) (by omega) (by omega)
          generalize scm 0 ((R : Int) * 2 + b) 0 D = sg at *
          go_wp2_with fail
          refine (sless_any ((R : Int) * 2 + b) D _ (by omega) (by omega) (by omega)).mono ?_
          rintro e w4 ⟨rfl, hb⟩
          clear a0 a1 a2_ a3 al d0 d1 d2_ d3 dl q0 q1 q2_ q3 ql r0 r1 r2_ r3 rl
          replace Sa := Sa.next hb
          replace Sd := Sd.next hb
          replace Sq := Sq.next hb
          replace Sr := Sr.next hb
          replace HB := Lib.hid (thn HB.out hb)
          clear hb
          obtain ⟨a0, a1, a2_, a3, al⟩ := id Sa
          obtain ⟨d0, d1, d2_, d3, dl⟩ := id Sd
          obtain ⟨q0, q1, q2_, q3, ql⟩ := id Sq
          obtain ⟨r0, r1, r2_, r3, rl⟩ := id Sr
          go_wp2_with fail
          clear a0 a1 a2_ a3 al d0 d1 d2_ d3 dl q0 q1 q2_ q3 ql r0 r1 r2_ r3 rl
          replace Sa := (Sa.else (p := ⟨br, 0, none⟩) nb (.int .u64 (0))).else (p := ⟨br, 1, none⟩) nb (.int .u64 ((R : Int) * 2 + b - D))
          replace Sd := (Sd.else (p := ⟨br, 0, none⟩) nd (.int .u64 (0))).else (p := ⟨br, 1, none⟩) nd (.int .u64 ((R : Int) * 2 + b - D))
          replace Sq := (Sq.else (p := ⟨br, 0, none⟩) ne (.int .u64 (0))).else (p := ⟨br, 1, none⟩) ne (.int .u64 ((R : Int) * 2 + b - D))
          replace Sr := Sr.put (.int .u64 (0)) (.int .u64 ((R : Int) * 2 + b - D))
          replace HB := Lib.hid ((HB.out.setCell (p := ⟨br, 0, none⟩) (HN.out.2.2.2.2.2.2) (.int .u64 (0))).setCell (p := ⟨br, 1, none⟩) (HN.out.2.2.2.2.2.2) (.int .u64 ((R : Int) * 2 + b - D)))
          generalize (w4.setCell ⟨br, 0, none⟩ (.int .u64 (0))).setCell ⟨br, 1, none⟩ (.int .u64 ((R : Int) * 2 + b - D)) = u4 at *
          replace Sa := Sa.else (p := ⟨bq, 1, none⟩) na (.int .u64 ((Q : Int) * 2 + 1))
          replace Sd := Sd.else (p := ⟨bq, 1, none⟩) nc (.int .u64 ((Q : Int) * 2 + 1))
          replace Sq := Sq.put1 (.int .u64 ((Q : Int) * 2 + 1))
          replace Sr := Sr.else (p := ⟨bq, 1, none⟩) ne' (.int .u64 ((Q : Int) * 2 + 1))
          replace HB := Lib.hid (HB.out.setCell (p := ⟨bq, 1, none⟩) (HN.out.2.2.2.2.2.1) (.int .u64 ((Q : Int) * 2 + 1)))
          refine ⟨⟨n, by omega, rfl, Sa, Sd, ?_, ?_, HB.out⟩, by simp [intOf]⟩
          · rw [HSt.out.1, if_pos hge, show ((2 * Q + 1 : Nat) : Int) = (Q : Int) * 2 + 1 by omega]; exact Sq
          · rw [HSt.out.2, if_pos hge, show ((2 * R + b - D : Nat) : Int) = (R : Int) * 2 + b - D by omega]; exact Sr
        · have hsg2 : ¬ scm 0 ((R : Int) * 2 + b) 0 D ≥ 0 := by unfold scm sgn; rw [if_pos rfl, if_pos (by omega)]; omega
          generalize scm 0 ((R : Int) * 2 + b) 0 D = sg at *
          go_wp2_with fail
          refine ⟨⟨n, by omega, rfl, Sa, Sd, ?_, ?_, HB.out⟩, by simp [intOf]⟩
          · rw [HSt.out.1, if_neg hge, show ((2 * Q : Nat) : Int) = (Q : Int) * 2 by omega]; exact Sq
          · rw [HSt.out.2, if_neg hge, show ((2 * R + b : Nat) : Int) = (R : Int) * 2 + b by omega]; exact Sr
    · obtain rfl : c = 0 := by omega
      rw [Nat.pow_zero, Nat.div_one] at Sq Sr
      obtain ⟨Q, hQ⟩ : ∃ Q, Q = T / D := ⟨_, rfl⟩
      obtain ⟨R, hR⟩ : ∃ R, R = T % D := ⟨_, rfl⟩
      rw [← hQ] at Sq
      rw [← hR] at Sr
      have HQ2 := Lib.hid hQ
      have HR2 := Lib.hid hR
      clear hQ hR
      have g2 : ¬ ((0 : Nat) : Int) - 1 ≥ 0 := by omega
      obtain ⟨a0, a1, a2_, a3, al⟩ := id Sa
      obtain ⟨d0, d1, d2_, d3, dl⟩ := id Sd
      obtain ⟨q0, q1, q2_, q3, ql⟩ := id Sq
      obtain ⟨r0, r1, r2_, r3, rl⟩ := id Sr
      have ne := HN.out.2.2.2.2.1
      have ne2 := Ne.symm HN.out.2.2.2.2.1
      go_wp2_with fail
      have A1 := Sq.put (.int .u64 0) (.int .u64 Q)
      have A2 := (Sr.else (p := ⟨bq, 0, none⟩) ne (.int .u64 0)).else (p := ⟨bq, 1, none⟩) ne (.int .u64 Q)
      have B1 := (A1.else (p := ⟨br, 0, none⟩) ne2 (.int .u64 0)).else (p := ⟨br, 1, none⟩) ne2 (.int .u64 R)
      have B2 := A2.put (.int .u64 0) (.int .u64 R)
      have HBq := Lib.hid (thn ((((HB.out.setCell (p := ⟨bq, 0, none⟩) HN.out.2.2.2.2.2.1 (.int .u64 0)).setCell (p := ⟨bq, 1, none⟩) HN.out.2.2.2.2.2.1 (.int .u64 Q)).setCell (p := ⟨br, 0, none⟩) HN.out.2.2.2.2.2.2 (.int .u64 0)).setCell (p := ⟨br, 1, none⟩) HN.out.2.2.2.2.2.2 (.int .u64 R)) (bdrew _))
      have HA := Lib.hid (And.intro A1.drew A2.drew)
      have HBB := Lib.hid (And.intro B1.drew B2.drew)
      clear A1 A2 B1 B2
      go_region_held3 (fun w' => (w'.cell? ⟨bq, 0, none⟩ = some (.int .u64 0) ∧ w'.cell? ⟨bq, 1, none⟩ = some (.int .u64 (Q : Int)) ∧ w'.cell? ⟨br, 0, none⟩ = some (.int .u64 0) ∧ w'.cell? ⟨br, 1, none⟩ = some (.int .u64 (R : Int)))) (first | exact ⟨q0, q1, r0, r1⟩ | with_reducible exact ⟨HA.out.1.c0, HA.out.1.c1, HA.out.2.c0, HA.out.2.c1⟩ | with_reducible exact ⟨HBB.out.1.c0, HBB.out.1.c1, HBB.out.2.c0, HBB.out.2.c1⟩) (fail)
      obtain ⟨z0, z1, _⟩ := HBB.out.1
      obtain ⟨y0, y1, _⟩ := HBB.out.2
      go_wp2_with fail
      exact bodyPost_ret (v := .tuple #[szV 0 Q, szV 0 R]) (by simp [results, Try.results59, go_sem, z0, z1, y0, y1]) rfl ⟨by rw [HQ2.out, HR2.out], HBq.out⟩
end Go.Proofs.Ytpgpdglmgpjhlaa
