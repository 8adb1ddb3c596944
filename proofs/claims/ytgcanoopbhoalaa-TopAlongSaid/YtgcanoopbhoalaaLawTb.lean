/- TopAlong: the walk where the position is not valid, and where there are no steps. -/
import Derived.Test.YtgcanoopbhoalaaLawTa
namespace Go.Proofs.Ytgcanoopbhoalaa
open Go.RowKit Go.Joins Fdk
set_option linter.unusedVariables false
set_option maxRecDepth 4000 in
set_option maxHeartbeats 8000000 in
theorem along_bad (a b t : Int) (bl off n cap : Nat) (Z : Nat → Int) (w : World) (hv : vd a b = false) (hbw : bl < w.heap.size) (hl : n ≤ cap) (hm : cap ≤ maxLen) (hc : IntAt w bl off n Z) :
    Calls Try.prog 4 #[posV a b, .int .i64 t, .slice (some ⟨bl, off, none⟩) n cap] w fun e w' => e = .returned (.bool true) ∧ Below w.heap.size w w' := by
  have hmx : n ≤ 9223372036854775807 := by unfold maxLen at hm; omega
  go_enter Try.func4, Try.ntmps4
  go_wp2_with fail
  refine (dist_any _ _ _ _ _).mono ?_
  rintro e w1 ⟨rfl, hb⟩
  rw [ex_dt]
  have B := thn (below_alloc1 w _) hb
  have T := (c2_new w (.int .i64 a) (.int .i64 b) 27).next hb
  clear hb
  obtain ⟨t0, t1, t2, t3, tl⟩ := id T
  go_wp2_with fail
  clear t0 t1 t2 t3 tl
  have hne : w1.heap.size ≠ w.heap.size := by have := T.lt; omega
  have hle : w.heap.size ≤ w1.heap.size := by have := T.lt; omega
  have Q := c2_new w1 (.int .i64 a) (.int .i64 b) 27
  replace T := T.alc (.cells #[.int .i64 a, .int .i64 b] 27)
  replace B := alc B (.cells #[.int .i64 a, .int .i64 b] 27)
  generalize w1.alloc (.cells #[.int .i64 a, .int .i64 b] 27) = v1 at *
  generalize w1.heap.size = bat at *
  go_loopw [10, 13] (fun ds i wr => ∃ (k : Nat), k ≤ n ∧ k ≤ 16 ∧ i = .int .i64 k ∧ ds = .int .i64 0 ∧ C2 wr w.heap.size (.int .i64 a) (.int .i64 b) ∧ C2 wr bat (.int .i64 a) (.int .i64 b) ∧ Below w.heap.size w wr) (fun _ i _ => 17 - (intOf i).toNat)
  case atStart => exact ⟨0, by omega, by omega, rfl, rfl, T, Q, B⟩
  case round =>
    obtain ⟨k, hk, hk16, rfl, rfl, T, Q, B⟩ := hrel
    by_cases h1 : k < n
    · by_cases h2 : k < 16
      · have i0 : (0 : Int) ≤ (k : Int) := Int.natCast_nonneg k
        have i1 : (k : Int) < n := by omega
        have i2 : (k : Int) < 16 := by omega
        have i3 : (k : Int).toNat = k := by omega
        have ek : IntKind.i64.wrap (k : Int) = k := IntWalk.i64_in _ (by omega)
        have ek1 : IntKind.i64.wrap ((k : Int) + 1) = (k : Int) + 1 := IntWalk.i64_in _ (by omega)
        have hcell : wr.cell? ⟨bl, off + k, none⟩ = some (.int .i64 (Z k)) := (B.cell (p := ⟨bl, off + k, none⟩) hbw).trans (hc k h1).1
        have zb := (hc k h1).2
        generalize Z k = z at hcell zb
        by_cases hz0 : z < 0
        · go_wp2
          go_roundw
          case rel => exact ⟨k + 1, by omega, by omega, by go_num, rfl, T, Q, B⟩
          case measure => simp [intOf]; omega
        · by_cases hz1 : z > 64800000
          · go_wp2
            go_roundw
            case rel => exact ⟨k + 1, by omega, by omega, by go_num, rfl, T, Q, B⟩
            case measure => simp [intOf]; omega
          · have ed : IntKind.i64.wrap (0 + z) = 0 + z := IntWalk.i64_in _ (by omega)
            have ed2 : IntKind.i64.wrap z = z := IntWalk.i64_in _ (by omega)
            have HV := Lib.hid hv
            have HA := Lib.hid (fun s => show alv a b t s = (0, 0, 1) by unfold alv; rw [if_neg (by rw [hv]; decide)])
            have HL := Lib.hid (show dstv a b 0 0 = (0, 1) by simp [dstv, hv])
            obtain ⟨t0, t1, t2, t3, tl⟩ := id T
            go_wp2_with fail
            clear t0 t1 t2 t3 tl hcell
            refine (along_any _ _ _ _ _).mono ?_
            rintro e' w2 ⟨rfl, hb⟩
            rw [HA.out]
            have hq : bat ≠ w2.heap.size := by have := Q.lt; have := hb.size; omega
            replace B := (B.trans (hb.mono B.size)).alloc (Nat.le_trans B.size hb.size) (.cells #[.int .i64 0, .int .i64 0] 27)
            replace T := (T.next hb).alc (.cells #[.int .i64 0, .int .i64 0] 27)
            replace Q := (Q.next hb).alc (.cells #[.int .i64 0, .int .i64 0] 27)
            have R := c2_new w2 (.int .i64 0) (.int .i64 0) 27
            clear hb
            obtain ⟨q0, q1, q2, q3, ql⟩ := id Q
            go_wp2_with fail
            clear q0 q1 q2 q3 ql
            generalize w2.alloc (.cells #[.int .i64 0, .int .i64 0] 27) = v2 at *
            generalize w2.heap.size = bq at *
            obtain ⟨q0, q1, q2, q3, ql⟩ := id Q
            obtain ⟨r0, r1, r2', r3', rl⟩ := id R
            go_wp2_with fail
            clear q0 q1 q2 q3 ql r0 r1 r2' r3' rl
            refine (dist_any _ _ _ _ _).mono ?_
            rintro e' w3 ⟨rfl, hb⟩
            rw [HL.out]
            replace B := B.trans (hb.mono B.size)
            replace T := T.next hb
            replace Q := Q.next hb
            replace R := R.next hb
            clear hb
            obtain ⟨t0, t1, t2, t3, tl⟩ := id T
            obtain ⟨r0, r1, r2', r3', rl⟩ := id R
            go_wp2_with fail
            clear t0 t1 t2 t3 tl r0 r1 r2' r3' rl
            refine (dist_any _ _ _ _ _).mono ?_
            rintro e' w4 ⟨rfl, hb⟩
            rw [HL.out]
            replace B := B.trans (hb.mono B.size)
            replace T := T.next hb
            clear hb
            obtain ⟨t0, t1, t2, t3, tl⟩ := id T
            go_wp2_with fail
            refine (valid_any _ _ _).mono ?_
            rintro e' w5 ⟨rfl, hb⟩
            rw [HV.out]
            replace B := B.trans (hb.mono B.size)
            go_wp2
            go_ret
            exact ⟨rfl, B⟩
      · have i2 : ¬ (k : Int) < 16 := by omega
        have i1 : (k : Int) < n := by omega
        go_wp2
        go_ret
        exact ⟨rfl, B⟩
    · have i1 : ¬ (k : Int) < n := by omega
      go_wp2
      go_ret
      exact ⟨rfl, B⟩
set_option maxRecDepth 4000 in
set_option maxHeartbeats 4000000 in
theorem along_none (a b t : Int) (q : Option Addr) (cap : Nat) (w : World) :
    Calls Try.prog 4 #[posV a b, .int .i64 t, .slice q 0 cap] w fun e w' => e = .returned (.bool true) ∧ Below w.heap.size w w' := by
  go_enter Try.func4, Try.ntmps4
  go_wp2_with fail
  refine (dist_any _ _ _ _ _).mono ?_
  rintro e w1 ⟨rfl, hb⟩
  rw [ex_dt]
  have B := thn (below_alloc1 w _) hb
  have T := (c2_new w (.int .i64 a) (.int .i64 b) 27).next hb
  clear hb
  obtain ⟨t0, t1, t2, t3, tl⟩ := id T
  go_wp2_with fail
  clear t0 t1 t2 t3 tl T
  replace B := alc B (.cells #[.int .i64 a, .int .i64 b] 27)
  go_loopw [13] (fun i wr => i = .int .i64 0 ∧ Below w.heap.size w wr) (fun _ _ => 0)
  case atStart => exact ⟨rfl, B⟩
  case round =>
    obtain ⟨rfl, B⟩ := hrel
    go_wp2
    go_ret
    exact ⟨rfl, B⟩
end Go.Proofs.Ytgcanoopbhoalaa
