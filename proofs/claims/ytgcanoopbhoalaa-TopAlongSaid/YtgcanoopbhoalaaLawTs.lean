/- TopTriangle: the walk. -/
import Derived.Test.YtgcanoopbhoalaaTri
import Derived.Test.YtgcanoopbhoalaaSphV
import Derived.Deep.RegionHeld3
namespace Go.Proofs.Ytgcanoopbhoalaa
open Go.RowKit Go.Joins Fdk
set_option linter.unusedVariables false
theorem ex_dt : dstv 0 0 32400000 0 = (32400000, 0) := dstv_val 32400000 (by decide +kernel) (dv_val 1152921504606846976 1073741824 0 32400000 (by decide +kernel) (isq_val _ (by decide +kernel)) (by decide +kernel) a2_90)
/-- the elements of a slice of positions. -/
def PosAt (w : World) (b off n : Nat) (A B : Nat → Int) : Prop := ∀ i, i < n → w.cell? ⟨b, off + i * 2, none⟩ = some (.int .i64 (A i)) ∧ w.cell? ⟨b, off + i * 2 + 1, none⟩ = some (.int .i64 (B i))
theorem PosAt.next {w w' : World} {b off n : Nat} {A B : Nat → Int} (h : PosAt w b off n A B) (hb : b < w.heap.size) (k : Below w.heap.size w w') : PosAt w' b off n A B := fun i hi => by
  obtain ⟨h1, h2⟩ := h i hi
  exact ⟨(k.cell (p := ⟨b, off + i * 2, none⟩) hb).trans h1, (k.cell (p := ⟨b, off + i * 2 + 1, none⟩) hb).trans h2⟩
theorem dstv_two (a b c d : Int) : dstv a b c d = (0, 1) ∨ dstv a b c d = (dv a b c d, 0) := by unfold dstv; split; exact .inr rfl; exact .inl rfl
set_option maxHeartbeats 8000000 in
theorem triangle_some (b off n cap : Nat) (A B : Nat → Int) (w : World) (hbw : b < w.heap.size) (hl : n ≤ cap) (hm : cap ≤ maxLen) (hc : PosAt w b off n A B) :
    Calls Try.prog 3 #[.slice (some ⟨b, off, none⟩) n cap] w fun e w' => e = .returned (.bool true) ∧ Below w.heap.size w w' := by
  have hmx : n ≤ 9223372036854775807 := by unfold maxLen at hm; omega
  go_enter Try.func3, Try.ntmps3
  go_wp2_with fail
  refine (dist_any _ _ _ _ _).mono ?_
  rintro e w1 ⟨rfl, hb⟩
  rw [ex_dt]
  have B0 := hb
  go_wp2_with fail
  go_loopw [5, 6] (fun s i wr => ∃ k : Nat, (k = 0 ∨ k < n) ∧ k < 24 ∧ i = .int .i64 ((k : Int) + 1) ∧ s = .int .i64 (legs A B k) ∧ Below w.heap.size w wr) (fun _ i _ => 25 - (intOf i).toNat)
  case atStart => exact ⟨0, .inl rfl, by omega, rfl, rfl, B0⟩
  case round =>
    obtain ⟨k, hk, hk2, rfl, rfl, hb⟩ := hrel
    have hkz : (k : Int) ≤ 24 := by omega
    by_cases h1 : k + 1 < n
    · by_cases h2 : k + 1 < 24
      · have h3 : (k : Int) + 1 < n := by omega
        have h4 : (k : Int) + 1 < 24 := by omega
        have P := hc.next hbw hb
        have hbr := Nat.lt_of_lt_of_le hbw hb.size
        have e0 : IntKind.i64.wrap ((k : Int) + 1 - 1) = k := by rw [Int.add_sub_cancel]; exact IntWalk.i64_in _ (by omega)
        have L0 : ∀ w', Below wr.heap.size wr w' → w'.cell? ⟨b, off + k * 2, none⟩ = some (.int .i64 (A k)) := fun w' h => ((P.next hbr h) k (by omega)).1
        have L1 : ∀ w', Below wr.heap.size wr w' → w'.cell? ⟨b, off + k * 2 + 1, none⟩ = some (.int .i64 (B k)) := fun w' h => ((P.next hbr h) k (by omega)).2
        have L2 : ∀ w', Below wr.heap.size wr w' → w'.cell? ⟨b, off + (k + 1) * 2, none⟩ = some (.int .i64 (A (k + 1))) := fun w' h => ((P.next hbr h) (k + 1) h1).1
        have L3 : ∀ w', Below wr.heap.size wr w' → w'.cell? ⟨b, off + (k + 1) * 2 + 1, none⟩ = some (.int .i64 (B (k + 1))) := fun w' h => ((P.next hbr h) (k + 1) h1).2
        have e1 : IntKind.i64.wrap (k : Int) = k := IntWalk.i64_in _ (by omega)
        have e2 : IntKind.i64.wrap ((k : Int) + 1) = (k : Int) + 1 := IntWalk.i64_in _ (by omega)
        have i0 : (0 : Int) ≤ (k : Int) := Int.natCast_nonneg k
        have i1 : (0 : Int) ≤ (k : Int) + 1 := by omega
        have i2 : (k : Int) < n := by omega
        have i3 : ((k : Int) + 1).toNat = k + 1 := by omega
        have HP := Lib.hid P
        clear P
        have hd := dstv_two (A k) (B k) (A (k + 1)) (B (k + 1))
        have hw := dstv_two (A 0) (B 0) (A (k + 1)) (B (k + 1))
        have HT := Lib.hid (legs_end A B k)
        have lb := legs_b A B k
        have tb := dv_b (A k) (B k) (A (k + 1)) (B (k + 1))
        have sb := dv_b (A 0) (B 0) (A (k + 1)) (B (k + 1))
        have el : legs A B (k + 1) = legs A B k + dv (A k) (B k) (A (k + 1)) (B (k + 1)) := rfl
        have HEL := Lib.hid el
        clear el
        generalize dv (A k) (B k) (A (k + 1)) (B (k + 1)) = leg at *
        generalize dv (A 0) (B 0) (A (k + 1)) (B (k + 1)) = whole at *
        rcases hd with hd | hd
        · have HD := Lib.hid hd
          obtain ⟨X, Y, hxy⟩ : ∃ X Y, dstv (A 0) (B 0) (A (k + 1)) (B (k + 1)) = (X, Y) := ⟨_, _, rfl⟩
          have HW := Lib.hid hxy
          clear hd hw hxy
          go_wp2_with fail
          go_region_held3 (fun w' => Below wr.heap.size wr w') (first | with_reducible exact bdrew _ | with_reducible exact hS1) (first | (go_at_call 5; refine (dist_any _ _ _ _ _).mono ?_; rintro e x1 ⟨rfl, hb1⟩; have hS1 := thn (bdrew wr) hb1))
          rw [HD.out]
          have B1 := hb.trans (hS1.mono hb.size)
          have Q := HP.out.next hbr hS1
          clear L0 L1 L2 L3 hS1 hb1
          have hbx := Nat.lt_of_lt_of_le hbw B1.size
          have L0 : ∀ w', Below x1.heap.size x1 w' → w'.cell? ⟨b, off, none⟩ = some (.int .i64 (A 0)) := fun w' h => by simpa using ((Q.next hbx h) 0 (by omega)).1
          have L1 : ∀ w', Below x1.heap.size x1 w' → w'.cell? ⟨b, off + 1, none⟩ = some (.int .i64 (B 0)) := fun w' h => by simpa using ((Q.next hbx h) 0 (by omega)).2
          have L2 : ∀ w', Below x1.heap.size x1 w' → w'.cell? ⟨b, off + (k + 1) * 2, none⟩ = some (.int .i64 (A (k + 1))) := fun w' h => ((Q.next hbx h) (k + 1) h1).1
          have L3 : ∀ w', Below x1.heap.size x1 w' → w'.cell? ⟨b, off + (k + 1) * 2 + 1, none⟩ = some (.int .i64 (B (k + 1))) := fun w' h => ((Q.next hbx h) (k + 1) h1).2
          have i4 : (0 : Int) < n := by omega
          have i5 : 0 < n := by omega
          clear Q
          go_wp2_with fail
          go_region_held3 (fun w' => Below x1.heap.size x1 w') (first | with_reducible exact bdrew _ | with_reducible exact hS2) (first | (go_at_call 5; refine (dist_any _ _ _ _ _).mono ?_; rintro e x2 ⟨rfl, hb2⟩; have hS2 := thn (bdrew x1) hb2))
          rw [HW.out]
          replace B1 := B1.trans (hS2.mono B1.size)
          clear L0 L1 L2 L3 hS2 hb2
          go_wp2
          go_ret
          exact ⟨rfl, B1⟩
        · rcases hw with hw | hw
          · have HD := Lib.hid hd
            have HW := Lib.hid hw
            clear hd hw
            go_wp2_with fail
            go_region_held3 (fun w' => Below wr.heap.size wr w') (first | with_reducible exact bdrew _ | with_reducible exact hS1) (first | (go_at_call 5; refine (dist_any _ _ _ _ _).mono ?_; rintro e x1 ⟨rfl, hb1⟩; have hS1 := thn (bdrew wr) hb1))
            rw [HD.out]
            have B1 := hb.trans (hS1.mono hb.size)
            have Q := HP.out.next hbr hS1
            clear L0 L1 L2 L3 hS1 hb1
            have hbx := Nat.lt_of_lt_of_le hbw B1.size
            have L0 : ∀ w', Below x1.heap.size x1 w' → w'.cell? ⟨b, off, none⟩ = some (.int .i64 (A 0)) := fun w' h => by simpa using ((Q.next hbx h) 0 (by omega)).1
            have L1 : ∀ w', Below x1.heap.size x1 w' → w'.cell? ⟨b, off + 1, none⟩ = some (.int .i64 (B 0)) := fun w' h => by simpa using ((Q.next hbx h) 0 (by omega)).2
            have L2 : ∀ w', Below x1.heap.size x1 w' → w'.cell? ⟨b, off + (k + 1) * 2, none⟩ = some (.int .i64 (A (k + 1))) := fun w' h => ((Q.next hbx h) (k + 1) h1).1
            have L3 : ∀ w', Below x1.heap.size x1 w' → w'.cell? ⟨b, off + (k + 1) * 2 + 1, none⟩ = some (.int .i64 (B (k + 1))) := fun w' h => ((Q.next hbx h) (k + 1) h1).2
            have i4 : (0 : Int) < n := by omega
            have i5 : 0 < n := by omega
            clear Q
            go_wp2_with fail
            go_region_held3 (fun w' => Below x1.heap.size x1 w') (first | with_reducible exact bdrew _ | with_reducible exact hS2) (first | (go_at_call 5; refine (dist_any _ _ _ _ _).mono ?_; rintro e x2 ⟨rfl, hb2⟩; have hS2 := thn (bdrew x1) hb2))
            rw [HW.out]
            replace B1 := B1.trans (hS2.mono B1.size)
            clear L0 L1 L2 L3 hS2 hb2
            go_wp2
            go_ret
            exact ⟨rfl, B1⟩
          · have HD := Lib.hid hd
            have HW := Lib.hid hw
            clear hd hw
            go_wp2_with fail
            go_region_held3 (fun w' => Below wr.heap.size wr w') (first | with_reducible exact bdrew _ | with_reducible exact hS1) (first | (go_at_call 5; refine (dist_any _ _ _ _ _).mono ?_; rintro e x1 ⟨rfl, hb1⟩; have hS1 := thn (bdrew wr) hb1))
            rw [HD.out]
            have B1 := hb.trans (hS1.mono hb.size)
            have Q := HP.out.next hbr hS1
            clear L0 L1 L2 L3 hS1 hb1
            have hbx := Nat.lt_of_lt_of_le hbw B1.size
            have L0 : ∀ w', Below x1.heap.size x1 w' → w'.cell? ⟨b, off, none⟩ = some (.int .i64 (A 0)) := fun w' h => by simpa using ((Q.next hbx h) 0 (by omega)).1
            have L1 : ∀ w', Below x1.heap.size x1 w' → w'.cell? ⟨b, off + 1, none⟩ = some (.int .i64 (B 0)) := fun w' h => by simpa using ((Q.next hbx h) 0 (by omega)).2
            have L2 : ∀ w', Below x1.heap.size x1 w' → w'.cell? ⟨b, off + (k + 1) * 2, none⟩ = some (.int .i64 (A (k + 1))) := fun w' h => ((Q.next hbx h) (k + 1) h1).1
            have L3 : ∀ w', Below x1.heap.size x1 w' → w'.cell? ⟨b, off + (k + 1) * 2 + 1, none⟩ = some (.int .i64 (B (k + 1))) := fun w' h => ((Q.next hbx h) (k + 1) h1).2
            have i4 : (0 : Int) < n := by omega
            have i5 : 0 < n := by omega
            clear Q
            go_wp2_with fail
            go_region_held3 (fun w' => Below x1.heap.size x1 w') (first | with_reducible exact bdrew _ | with_reducible exact hS2) (first | (go_at_call 5; refine (dist_any _ _ _ _ _).mono ?_; rintro e x2 ⟨rfl, hb2⟩; have hS2 := thn (bdrew x1) hb2))
            rw [HW.out]
            replace B1 := B1.trans (hS2.mono B1.size)
            clear L0 L1 L2 L3 hS2 hb2
            have f1 : IntKind.i64.wrap (legs A B k + leg) = legs A B k + leg := IntWalk.i64_in _ (by omega)
            have f2 : IntKind.i64.wrap ((k : Int) + 1 + 1) = (k : Int) + 1 + 1 := IntWalk.i64_in _ (by omega)
            have f3 : IntKind.i64.wrap (2 * ((k : Int) + 1 + 1)) = 2 * ((k : Int) + 1 + 1) := IntWalk.i64_in _ (by omega)
            have f4 : IntKind.i64.wrap (legs A B k + leg + 2 * ((k : Int) + 1 + 1)) = legs A B k + leg + 2 * ((k : Int) + 1 + 1) := IntWalk.i64_in _ (by omega)
            have f5 : ¬ whole > legs A B k + leg + 2 * ((k : Int) + 1 + 1) := by have := HT.out; have := HEL.out; omega
            go_wp2
            go_roundw
            case rel => exact ⟨k + 1, .inr h1, h2, by go_num, by rw [HEL.out], B1⟩
            case measure => simp [intOf]; omega
      · have h4 : ¬ (k : Int) + 1 < 24 := by omega
        have h3 : (k : Int) + 1 < n := by omega
        go_wp2
        go_ret
        exact ⟨rfl, hb⟩
    · have h3 : ¬ (k : Int) + 1 < n := by omega
      go_wp2
      go_ret
      exact ⟨rfl, hb⟩
end Go.Proofs.Ytgcanoopbhoalaa
