/- TopAlong: the walk. -/
import Derived.Test.YtgcanoopbhoalaaAln
import Derived.Test.YtgcanoopbhoalaaLawTs
namespace Go.Proofs.Ytgcanoopbhoalaa
open Go.RowKit Go.Joins Fdk
set_option linter.unusedVariables false
theorem navSize_any (n : Int) (w : World) (h0 : -9223372036854775807 ≤ n) (h1 : n ≤ 9223372036854775807) :
    Calls Try.prog 8 #[.int .i64 n] w fun e w' => e = .returned (.int .i64 (iabs n)) ∧ w = w' := by
  have e1 : IntKind.i64.wrap (-n) = -n := IntWalk.i64_in _ (by omega)
  go_enter Try.func8, Try.ntmps8
  by_cases h : n < 0
  · have HI := Lib.hid (show iabs n = -n by unfold iabs; rw [if_pos h])
    go_wp2
    go_ret
    exact ⟨by rw [HI.out]; rfl, rfl⟩
  · have HI := Lib.hid (show iabs n = n by unfold iabs; rw [if_neg h])
    go_wp2
    go_ret
    exact ⟨by rw [HI.out]; rfl, rfl⟩
/-- the elements of a slice of numbers. -/
def IntAt (w : World) (b off n : Nat) (Z : Nat → Int) : Prop := ∀ i, i < n → w.cell? ⟨b, off + i, none⟩ = some (.int .i64 (Z i)) ∧ -9223372036854775808 ≤ Z i ∧ Z i ≤ 9223372036854775807
theorem IntAt.next {w w' : World} {b off n : Nat} {Z : Nat → Int} (h : IntAt w b off n Z) (hb : b < w.heap.size) (k : Below w.heap.size w w') : IntAt w' b off n Z := fun i hi => by
  obtain ⟨h1, h2⟩ := h i hi
  exact ⟨(k.cell (p := ⟨b, off + i, none⟩) hb).trans h1, h2⟩
set_option maxRecDepth 4000 in
set_option maxHeartbeats 8000000 in
theorem along_some (a b t : Int) (bl off n cap : Nat) (Z : Nat → Int) (w : World) (hv : vd a b = true) (hbw : bl < w.heap.size) (hl : n ≤ cap) (hm : cap ≤ maxLen) (hc : IntAt w bl off n Z) :
    Calls Try.prog 4 #[posV a b, .int .i64 t, .slice (some ⟨bl, off, none⟩) n cap] w fun e w' => e = .returned (.bool true) ∧ Below w.heap.size w w' := by
  have hmx : n ≤ 9223372036854775807 := by unfold maxLen at hm; omega
  go_enter Try.func4, Try.ntmps4
  go_wp2_with fail
  refine (dist_any _ _ _ _ _).mono ?_
  rintro e w1 ⟨rfl, hb⟩
  rw [ex_dt]
  have B := thn (below_alloc1 w _) hb
  have T := (c2_new w (.int .i64 a) (.int .i64 b) 27).next hb
  clear hb
  obtain ⟨t0, t1, t2, t3, tl⟩ := id T
  go_wp2_with fail
  clear t0 t1 t2 t3 tl
  have hne : w1.heap.size ≠ w.heap.size := by have := T.lt; omega
  have hle : w.heap.size ≤ w1.heap.size := by have := T.lt; omega
  have Q := c2_new w1 (.int .i64 a) (.int .i64 b) 27
  replace T := T.alc (.cells #[.int .i64 a, .int .i64 b] 27)
  replace B := alc B (.cells #[.int .i64 a, .int .i64 b] 27)
  generalize w1.alloc (.cells #[.int .i64 a, .int .i64 b] 27) = v1 at *
  generalize w1.heap.size = bat at *
  go_loopw [10, 11, 12, 13] (fun ds su nn i wr => ∃ (k m : Nat) (s sm c d : Int), k ≤ n ∧ k ≤ 16 ∧ m ≤ k ∧ i = .int .i64 k ∧ ds = .int .i64 s ∧ su = .int .i64 sm ∧ nn = .int .i64 (m : Int) ∧ 0 ≤ s ∧ s ≤ 64800000 ∧ -(10 * (m : Int)) ≤ sm - s ∧ sm - s ≤ 10 * (m : Int) ∧ Near9 a b t s c d ∧ C2 wr w.heap.size (.int .i64 a) (.int .i64 b) ∧ C2 wr bat (.int .i64 c) (.int .i64 d) ∧ Below w.heap.size w wr) (fun _ _ _ i _ => 17 - (intOf i).toNat)
  case atStart => exact ⟨0, 0, 0, 0, a, b, by omega, by omega, by omega, rfl, rfl, rfl, rfl, by omega, by omega, by omega, by omega, near_start a b t hv, T, Q, B⟩
  case round =>
    obtain ⟨k, m, s, sm, c, d, hk, hk16, hmk, rfl, rfl, rfl, rfl, s0, s1, g0, g1, near, T, Q, B⟩ := hrel
    have HN := Lib.hid near
    clear near
    by_cases h1 : k < n
    · by_cases h2 : k < 16
      · have i0 : (0 : Int) ≤ (k : Int) := Int.natCast_nonneg k
        have i1 : (k : Int) < n := by omega
        have i2 : (k : Int) < 16 := by omega
        have i3 : (k : Int).toNat = k := by omega
        have ek : IntKind.i64.wrap (k : Int) = k := IntWalk.i64_in _ (by omega)
        have ek1 : IntKind.i64.wrap ((k : Int) + 1) = (k : Int) + 1 := IntWalk.i64_in _ (by omega)
        have hbr : bl < wr.heap.size := Nat.lt_of_lt_of_le hbw B.size
        have hcell : wr.cell? ⟨bl, off + k, none⟩ = some (.int .i64 (Z k)) := (B.cell (p := ⟨bl, off + k, none⟩) hbw).trans (hc k h1).1
        have zb := (hc k h1).2
        generalize Z k = z at hcell zb
        have es : IntKind.i64.wrap (64800000 - s) = 64800000 - s := IntWalk.i64_in _ (by omega)
        by_cases hz0 : z < 0
        · go_wp2
          go_roundw
          case rel => exact ⟨k + 1, m, s, sm, c, d, by omega, by omega, by omega, by go_num, rfl, rfl, rfl, s0, s1, g0, g1, HN.out, T, Q, B⟩
          case measure => simp [intOf]; omega
        · by_cases hz1 : z > 64800000 - s
          · go_wp2
            go_roundw
            case rel => exact ⟨k + 1, m, s, sm, c, d, by omega, by omega, by omega, by go_num, rfl, rfl, rfl, s0, s1, g0, g1, HN.out, T, Q, B⟩
            case measure => simp [intOf]; omega
          · have ed : IntKind.i64.wrap (s + z) = s + z := IntWalk.i64_in _ (by omega)
            have HV := Lib.hid hv
            obtain ⟨e, f, ha, nr⟩ := near_along a b t (s + z) hv (by omega)
            have HA := Lib.hid ha
            obtain ⟨l1, l2, l3⟩ := near_leg a b t s (s + z) c d e f s0 (by omega) (by omega) HN.out nr
            obtain ⟨r1, r2, r3⟩ := near_whole a b t (s + z) e f hv (by omega) (by omega) nr
            have tb := dv_b c d e f
            have sb := dv_b a b e f
            have HL := Lib.hid l1
            have HW := Lib.hid r1
            have HNR := Lib.hid nr
            clear ha l1 r1 nr
            generalize dv c d e f = leg at *
            generalize dv a b e f = whole at *
            obtain ⟨t0, t1, t2, t3, tl⟩ := id T
            go_wp2_with fail
            clear t0 t1 t2 t3 tl hcell
            refine (along_any _ _ _ _ _).mono ?_
            rintro e' w2 ⟨rfl, hb⟩
            rw [HA.out]
            have hq : bat ≠ w2.heap.size := by have := Q.lt; have := hb.size; omega
            replace B := (B.trans (hb.mono B.size)).alloc (Nat.le_trans B.size hb.size) (.cells #[.int .i64 e, .int .i64 f] 27)
            replace T := (T.next hb).alc (.cells #[.int .i64 e, .int .i64 f] 27)
            replace Q := (Q.next hb).alc (.cells #[.int .i64 e, .int .i64 f] 27)
            have R := c2_new w2 (.int .i64 e) (.int .i64 f) 27
            clear hb
            obtain ⟨q0, q1, q2, q3, ql⟩ := id Q
            go_wp2_with fail
            clear q0 q1 q2 q3 ql
            generalize w2.alloc (.cells #[.int .i64 e, .int .i64 f] 27) = v2 at *
            generalize w2.heap.size = bq at *
            obtain ⟨q0, q1, q2, q3, ql⟩ := id Q
            obtain ⟨r0, r1, r2', r3', rl⟩ := id R
            go_wp2_with fail
            clear q0 q1 q2 q3 ql r0 r1 r2' r3' rl
            refine (dist_any _ _ _ _ _).mono ?_
            rintro e' w3 ⟨rfl, hb⟩
            rw [HL.out]
            replace B := B.trans (hb.mono B.size)
            replace T := T.next hb
            replace Q := Q.next hb
            replace R := R.next hb
            clear hb
            obtain ⟨t0, t1, t2, t3, tl⟩ := id T
            obtain ⟨r0, r1, r2', r3', rl⟩ := id R
            go_wp2_with fail
            clear t0 t1 t2 t3 tl r0 r1 r2' r3' rl
            refine (dist_any _ _ _ _ _).mono ?_
            rintro e' w4 ⟨rfl, hb⟩
            rw [HW.out]
            replace B := B.trans (hb.mono B.size)
            replace T := T.next hb
            replace Q := Q.next hb
            replace R := R.next hb
            clear hb
            have f1 : IntKind.i64.wrap (sm + leg) = sm + leg := IntWalk.i64_in _ (by omega)
            have f2 : IntKind.i64.wrap ((m : Int) + 1) = (m : Int) + 1 := IntWalk.i64_in _ (by omega)
            have f3 : IntKind.i64.wrap (sm + leg - (s + z)) = sm + leg - (s + z) := IntWalk.i64_in _ (by omega)
            have f4 : IntKind.i64.wrap (((m : Int) + 1) * 10) = ((m : Int) + 1) * 10 := IntWalk.i64_in _ (by omega)
            have f5 : IntKind.i64.wrap (whole - (s + z)) = whole - (s + z) := IntWalk.i64_in _ (by omega)
            have f6 : ¬ iabs (sm + leg - (s + z)) > ((m : Int) + 1) * 10 := by unfold iabs; split <;> omega
            have f7 : ¬ iabs (whole - (s + z)) > 6 := by unfold iabs; split <;> omega
            have n1 : -9223372036854775807 ≤ sm + leg - (s + z) ∧ sm + leg - (s + z) ≤ 9223372036854775807 := by omega
            have n2 : -9223372036854775807 ≤ whole - (s + z) ∧ whole - (s + z) ≤ 9223372036854775807 := by omega
            obtain ⟨q0, q1, q2, q3, ql⟩ := id Q
            obtain ⟨r0, r1, r2', r3', rl⟩ := id R
            go_wp2_with (first | (go_at_call 8; refine (navSize_any (sm + leg - (s + z)) _ n1.1 n1.2).mono ?_; rintro e' w' ⟨rfl, rfl⟩) | (go_at_call 8; refine (navSize_any (whole - (s + z)) _ n2.1 n2.2).mono ?_; rintro e' w' ⟨rfl, rfl⟩))
            go_roundw
            case rel => exact ⟨k + 1, m + 1, s + z, sm + leg, e, f, by omega, by omega, by omega, by go_num, rfl, rfl, by go_num, by omega, by omega, by omega, by omega, HNR.out, (T.else (p := ⟨bat, 0, none⟩) hne _).else (p := ⟨bat, 1, none⟩) hne _, Q.put _ _, below_put2 B hle _ _⟩
            case measure => simp [intOf]; omega
      · have i2 : ¬ (k : Int) < 16 := by omega
        have i1 : (k : Int) < n := by omega
        go_wp2
        go_ret
        exact ⟨rfl, B⟩
    · have i1 : ¬ (k : Int) < n := by omega
      go_wp2
      go_ret
      exact ⟨rfl, B⟩
end Go.Proofs.Ytgcanoopbhoalaa
