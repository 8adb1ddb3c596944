/- The value of a table at an altitude. -/
import Derived.Test.YtfchbgcgdcoplaaTabA
import Derived.Deep.RegionHeld3
import Derived.Deep.DeepCutAuto
import Derived.Handy
namespace Go.Proofs.Ytfchbgcgdcoplaa
open Go.RowKit Go.Joins Fdk
set_option linter.unusedVariables false
theorem tix_eq {A : Nat → Int} {n k : Nat} {x : Int} (T : Tab n A) (h1 : 1 ≤ k) (h2 : k ≤ n - 1) (h3 : k = n - 1 ∨ x ≤ A k * 100) (h4 : k = 1 ∨ A (k - 1) * 100 < x) : tix1 A n x = k := by
  obtain ⟨b1, b2, b3, b4⟩ := tix1_ok (x := x) T
  have n2 := T.n2
  rcases Nat.lt_trichotomy (tix1 A n x) k with g | g | g
  · exfalso
    have q1 : A (k - 1) * 100 < x := by rcases h4 with h | h; omega; exact h
    have q2 : x ≤ A (tix1 A n x) * 100 := by rcases b3 with h | h; omega; exact h
    have q3 := up_le' T (show tix1 A n x ≤ k - 1 by omega) (by omega)
    omega
  · exact g
  · exfalso
    have q1 : A (tix1 A n x - 1) * 100 < x := by rcases b4 with h | h; omega; exact h
    have q2 : x ≤ A k * 100 := by rcases h3 with h | h; omega; exact h
    have q3 := up_le' T (show k ≤ tix1 A n x - 1 by omega) (by omega)
    omega
theorem c2_new1 (w : World) (o : Obj) (x y : Value) (t : TypeId) : C2 ((w.alloc o).alloc (.cells #[x, y] t)).drew (w.heap.size + 1) x y := by
  have g := (c2_new (w.alloc o) x y t).drew
  rw [show (w.alloc o).heap.size = w.heap.size + 1 by simp] at g
  exact g
theorem alc2d (w : World) (o1 o2 : Obj) : Below w.heap.size w ((w.alloc o1).alloc o2).drew := thn (below_alloc2 w o1 o2) (bdrew _)
theorem prod_b {a c : Int} (h0 : -20000000 ≤ a) (h1 : a ≤ 20000000) (h2 : -110000000 ≤ c) (h3 : c ≤ 110000000) : -2200000000000000 ≤ a * c ∧ a * c ≤ 2200000000000000 := by
  have p1 := Int.mul_nonneg (show 0 ≤ 20000000 - a by omega) (show 0 ≤ 110000000 - c by omega)
  have p2 := Int.mul_nonneg (show 0 ≤ 20000000 + a by omega) (show 0 ≤ 110000000 - c by omega)
  have p3 := Int.mul_nonneg (show 0 ≤ 20000000 - a by omega) (show 0 ≤ 110000000 + c by omega)
  have p4 := Int.mul_nonneg (show 0 ≤ 20000000 + a by omega) (show 0 ≤ 110000000 + c by omega)
  grind
set_option maxHeartbeats 4000000 in
theorem value_any (b n : Nat) (A B : Nat → Int) (x : Int) (w : World) (T : Tab n A) (hn : n ≤ 100) (hT : TabAt w b n A B) (hA : ∀ i, i < n → -100000 ≤ A i ∧ A i ≤ 100000) (hB : ∀ i, i < n → -10000000 ≤ B i ∧ B i ≤ 10000000) (hx0 : -10000000 ≤ x) (hx1 : x ≤ 10000000) (hv : -100000000 ≤ tv A B n x ∧ tv A B n x ≤ 100000000) :
    Calls Try.prog 13 #[.slice (some ⟨b, 0, none⟩) n n, .int .i64 x] w fun e w' => e = .returned (.int .i64 (tv A B n x)) ∧ Below w.heap.size w w' := by
  obtain ⟨V, hVd⟩ : ∃ V, V = tv A B n x := ⟨_, rfl⟩
  rw [← hVd] at hv ⊢
  have HVd := Lib.hid hVd
  clear hVd
  have n2 := T.n2
  have hnz : (n : Int) ≤ 100 := by omega
  have e0 : IntKind.i64.wrap ((n : Int) - 1) = ((n - 1 : Nat) : Int) := (IntWalk.i64_in _ (by omega)).trans (by omega)
  have HT := Lib.hid hT
  have HTab := Lib.hid T
  have HA := Lib.hid hA
  have HB := Lib.hid hB
  have HV := Lib.hid hv
  clear hT T hA hB hv
  go_enter Try.func13, Try.ntmps13
  go_wp2_with fail
  go_loopw [5] (fun s wr => ∃ k : Nat, 1 ≤ k ∧ k ≤ n - 1 ∧ s = .int .i64 k ∧ (k = 1 ∨ A (k - 1) * 100 < x) ∧ wr = w) (fun s _ => n - (intOf s).toNat)
  case atStart => exact ⟨1, Nat.le_refl _, by omega, rfl, .inl rfl, rfl⟩
  case round =>
    obtain ⟨k, k1, k2, rfl, k4, rfl⟩ := hrel
    have K4 := Lib.hid k4
    clear k4
    obtain ⟨c0, c1⟩ := HT.out.at_ k (by omega)
    rw [Nat.zero_add] at c0
    have g3 : (0 : Int) ≤ k := Int.natCast_nonneg k
    have g4 : (k : Int) < n := by omega
    have ak := HA.out k (by omega)
    have e1 : IntKind.i64.wrap (A k * 100) = A k * 100 := IntWalk.i64_in _ (by omega)
    by_cases t1 : k < n - 1 ∧ A k * 100 < x
    · obtain ⟨t1, t2⟩ := t1
      have t3 : (k : Int) < ((n - 1 : Nat) : Int) := by omega
      have HT2 := Lib.hid t2
      clear c1
      go_wp2_with fail
      exact ⟨⟨k + 1, by omega, by omega, rfl, .inr (by rw [Nat.add_sub_cancel]; exact HT2.out), trivial⟩, by simp [intOf]; omega⟩
    · by_cases t2 : k < n - 1
      · have t3 : (k : Int) < ((n - 1 : Nat) : Int) := by omega
        have t4 : ¬ A k * 100 < x := fun h => t1 ⟨t2, h⟩
        clear t1
        have hk : tix1 A n x = k := tix_eq HTab.out k1 k2 (.inr (by omega)) K4.out
        obtain ⟨j, rfl⟩ : ∃ j, k = j + 1 := ⟨k - 1, by omega⟩
        have e2 : IntKind.i64.wrap (((j + 1 : Nat) : Int) - 1) = j := (IntWalk.i64_in _ (by omega)).trans (by omega)
        have e2' : IntKind.i64.wrap ((j : Int) + 1 - 1) = j := (IntWalk.i64_in _ (by omega)).trans (by omega)
        have e2'' : IntKind.i64.wrap (j : Int) = j := IntWalk.i64_in _ (by omega)
        have j0 : (0 : Int) ≤ j := Int.natCast_nonneg j
        have j1 : (j : Int) < n := by omega
        have j2 : (0 : Int) ≤ (j : Int) + 1 := by omega
        have j3 : (j : Int) + 1 < n := by omega
        have HVe := Lib.hid (show V = B j + (B (j + 1) - B j) * (x - A j * 100) / ((A (j + 1) - A j) * 100) by rw [HVd.out]; unfold tv seg; rw [hk, Nat.add_sub_cancel])
        have L0 : ∀ w', Below wr.heap.size wr w' → w'.cell? ⟨b, j * 2, none⟩ = some (.int .i64 (A j)) := fun w' h => by have := ((HT.out.next h).at_ j (by omega)).1; rwa [Nat.zero_add] at this
        have L1 : ∀ w', Below wr.heap.size wr w' → w'.cell? ⟨b, j * 2 + 1, none⟩ = some (.int .i64 (B j)) := fun w' h => by have := ((HT.out.next h).at_ j (by omega)).2; rwa [Nat.zero_add] at this
        have L2 : ∀ w', Below wr.heap.size wr w' → w'.cell? ⟨b, (j + 1) * 2, none⟩ = some (.int .i64 (A (j + 1))) := fun w' h => by have := ((HT.out.next h).at_ (j + 1) (by omega)).1; rwa [Nat.zero_add] at this
        have L3 : ∀ w', Below wr.heap.size wr w' → w'.cell? ⟨b, (j + 1) * 2 + 1, none⟩ = some (.int .i64 (B (j + 1))) := fun w' h => by have := ((HT.out.next h).at_ (j + 1) (by omega)).2; rwa [Nat.zero_add] at this
        have HA0 := Lib.hid (HA.out j (by omega))
        have HA1 := Lib.hid (HA.out (j + 1) (by omega))
        have HB0 := Lib.hid (HB.out j (by omega))
        have HB1 := Lib.hid (HB.out (j + 1) (by omega))
        have HUp := Lib.hid (HTab.out.up j (by omega))
        clear hk K4 HTab HA HB HT HVd
        generalize A j = p at *
        generalize B j = y at *
        generalize A (j + 1) = q at *
        generalize B (j + 1) = z at *
        go_wp2_with fail
        clear c0 c1 t4 ak e1
        go_cut [6, 7] (fun s6 s7 wx => ∃ ba bb : Nat, s6 = .pointer (some ⟨ba, 0, none⟩) ∧ s7 = .pointer (some ⟨bb, 0, none⟩) ∧ C2 wx ba (.int .i64 p) (.int .i64 y) ∧ C2 wx bb (.int .i64 q) (.int .i64 z) ∧ Below wr.heap.size wr wx)
        case first =>
          go_region_held3 (fun w' => Below wr.heap.size wr w') (go_grown) (fail)
          · go_wp2_with fail
            go_meet
            exact ⟨_, _, rfl, rfl, ((c2_new wr _ _ _).alc _).drew, c2_new1 wr _ _ _ _, alc2d wr _ _⟩
          · go_wp2_with fail
            go_meet
            exact ⟨_, _, rfl, rfl, c2_new1 wr _ _ _ _, ((c2_new wr _ _ _).alc _).drew, alc2d wr _ _⟩
        case rest =>
        obtain ⟨ba, bb, rfl, rfl, Pa, Pb, hbw⟩ := hcut
        have HW := Lib.hid hbw
        clear hbw L0 L1 L2 L3
        have hm : -2200000000000000 ≤ (z - y) * (x - p * 100) ∧ (z - y) * (x - p * 100) ≤ 2200000000000000 := by
          have := HA0.out; have := HB0.out; have := HB1.out
          exact prod_b (by omega) (by omega) (by omega) (by omega)
        have f1 : IntKind.i64.wrap (z - y) = z - y := IntWalk.i64_in _ (by have := HB0.out; have := HB1.out; omega)
        have f2 : IntKind.i64.wrap (p * 100) = p * 100 := IntWalk.i64_in _ (by have := HA0.out; omega)
        have f3 : IntKind.i64.wrap (x - p * 100) = x - p * 100 := IntWalk.i64_in _ (by have := HA0.out; omega)
        have f5 : IntKind.i64.wrap (q - p) = q - p := IntWalk.i64_in _ (by have := HA0.out; have := HA1.out; omega)
        have f6 : IntKind.i64.wrap ((q - p) * 100) = (q - p) * 100 := IntWalk.i64_in _ (by have := HA0.out; have := HA1.out; omega)
        have HMul := Lib.hid hm
        obtain ⟨M, hM⟩ : ∃ M, (z - y) * (x - p * 100) = M := ⟨_, rfl⟩
        rw [hM] at hm HVe
        have f4 : IntKind.i64.wrap ((z - y) * (x - p * 100)) = M := by rw [hM]; exact IntWalk.i64_in _ (by omega)
        have HF := Lib.hid (fun w => floor_any M ((q - p) * 100) w (by omega) (by omega) (by have := HUp.out; omega) (by have := HA0.out; have := HA1.out; omega))
        have f7 : IntKind.i64.wrap (y + M / ((q - p) * 100)) = V := by rw [← HVe.out]; exact IntWalk.i64_in _ (by have := HV.out; omega)
        clear hm hM HMul
        obtain ⟨p0, p1, p2, p3, pl⟩ := id Pa
        obtain ⟨q0, q1, q2, q3, ql⟩ := id Pb
        go_wp2_with fail
        refine (HF.out _).mono ?_
        rintro e w2 ⟨rfl, hd⟩
        have HW2 := Lib.hid (thn HW.out (hd.below _))
        replace Pa := Pa.next (hd.below _)
        clear hd p0 p1 p2 p3 pl q0 q1 q2 q3 ql HW Pb
        obtain ⟨p0, p1, p2, p3, pl⟩ := id Pa
        go_wp2_with fail
        go_ret
        exact ⟨rfl, HW2.out⟩
      · have t3 : ¬ (k : Int) < ((n - 1 : Nat) : Int) := by omega
        clear t1
        have hk : tix1 A n x = k := tix_eq HTab.out k1 k2 (.inl (by omega)) K4.out
        obtain ⟨j, rfl⟩ : ∃ j, k = j + 1 := ⟨k - 1, by omega⟩
        have e2 : IntKind.i64.wrap (((j + 1 : Nat) : Int) - 1) = j := (IntWalk.i64_in _ (by omega)).trans (by omega)
        have e2' : IntKind.i64.wrap ((j : Int) + 1 - 1) = j := (IntWalk.i64_in _ (by omega)).trans (by omega)
        have e2'' : IntKind.i64.wrap (j : Int) = j := IntWalk.i64_in _ (by omega)
        have j0 : (0 : Int) ≤ j := Int.natCast_nonneg j
        have j1 : (j : Int) < n := by omega
        have j2 : (0 : Int) ≤ (j : Int) + 1 := by omega
        have j3 : (j : Int) + 1 < n := by omega
        have HVe := Lib.hid (show V = B j + (B (j + 1) - B j) * (x - A j * 100) / ((A (j + 1) - A j) * 100) by rw [HVd.out]; unfold tv seg; rw [hk, Nat.add_sub_cancel])
        have L0 : ∀ w', Below wr.heap.size wr w' → w'.cell? ⟨b, j * 2, none⟩ = some (.int .i64 (A j)) := fun w' h => by have := ((HT.out.next h).at_ j (by omega)).1; rwa [Nat.zero_add] at this
        have L1 : ∀ w', Below wr.heap.size wr w' → w'.cell? ⟨b, j * 2 + 1, none⟩ = some (.int .i64 (B j)) := fun w' h => by have := ((HT.out.next h).at_ j (by omega)).2; rwa [Nat.zero_add] at this
        have L2 : ∀ w', Below wr.heap.size wr w' → w'.cell? ⟨b, (j + 1) * 2, none⟩ = some (.int .i64 (A (j + 1))) := fun w' h => by have := ((HT.out.next h).at_ (j + 1) (by omega)).1; rwa [Nat.zero_add] at this
        have L3 : ∀ w', Below wr.heap.size wr w' → w'.cell? ⟨b, (j + 1) * 2 + 1, none⟩ = some (.int .i64 (B (j + 1))) := fun w' h => by have := ((HT.out.next h).at_ (j + 1) (by omega)).2; rwa [Nat.zero_add] at this
        have HA0 := Lib.hid (HA.out j (by omega))
        have HA1 := Lib.hid (HA.out (j + 1) (by omega))
        have HB0 := Lib.hid (HB.out j (by omega))
        have HB1 := Lib.hid (HB.out (j + 1) (by omega))
        have HUp := Lib.hid (HTab.out.up j (by omega))
        clear hk K4 HTab HA HB HT HVd
        generalize A j = p at *
        generalize B j = y at *
        generalize A (j + 1) = q at *
        generalize B (j + 1) = z at *
        go_wp2_with fail
        clear c0 c1 ak e1
        go_cut [6, 7] (fun s6 s7 wx => ∃ ba bb : Nat, s6 = .pointer (some ⟨ba, 0, none⟩) ∧ s7 = .pointer (some ⟨bb, 0, none⟩) ∧ C2 wx ba (.int .i64 p) (.int .i64 y) ∧ C2 wx bb (.int .i64 q) (.int .i64 z) ∧ Below wr.heap.size wr wx)
        case first =>
          go_region_held3 (fun w' => Below wr.heap.size wr w') (go_grown) (fail)
          · go_wp2_with fail
            go_meet
            exact ⟨_, _, rfl, rfl, ((c2_new wr _ _ _).alc _).drew, c2_new1 wr _ _ _ _, alc2d wr _ _⟩
          · go_wp2_with fail
            go_meet
            exact ⟨_, _, rfl, rfl, c2_new1 wr _ _ _ _, ((c2_new wr _ _ _).alc _).drew, alc2d wr _ _⟩
        case rest =>
        obtain ⟨ba, bb, rfl, rfl, Pa, Pb, hbw⟩ := hcut
        have HW := Lib.hid hbw
        clear hbw L0 L1 L2 L3
        have hm : -2200000000000000 ≤ (z - y) * (x - p * 100) ∧ (z - y) * (x - p * 100) ≤ 2200000000000000 := by
          have := HA0.out; have := HB0.out; have := HB1.out
          exact prod_b (by omega) (by omega) (by omega) (by omega)
        have f1 : IntKind.i64.wrap (z - y) = z - y := IntWalk.i64_in _ (by have := HB0.out; have := HB1.out; omega)
        have f2 : IntKind.i64.wrap (p * 100) = p * 100 := IntWalk.i64_in _ (by have := HA0.out; omega)
        have f3 : IntKind.i64.wrap (x - p * 100) = x - p * 100 := IntWalk.i64_in _ (by have := HA0.out; omega)
        have f5 : IntKind.i64.wrap (q - p) = q - p := IntWalk.i64_in _ (by have := HA0.out; have := HA1.out; omega)
        have f6 : IntKind.i64.wrap ((q - p) * 100) = (q - p) * 100 := IntWalk.i64_in _ (by have := HA0.out; have := HA1.out; omega)
        have HMul := Lib.hid hm
        obtain ⟨M, hM⟩ : ∃ M, (z - y) * (x - p * 100) = M := ⟨_, rfl⟩
        rw [hM] at hm HVe
        have f4 : IntKind.i64.wrap ((z - y) * (x - p * 100)) = M := by rw [hM]; exact IntWalk.i64_in _ (by omega)
        have HF := Lib.hid (fun w => floor_any M ((q - p) * 100) w (by omega) (by omega) (by have := HUp.out; omega) (by have := HA0.out; have := HA1.out; omega))
        have f7 : IntKind.i64.wrap (y + M / ((q - p) * 100)) = V := by rw [← HVe.out]; exact IntWalk.i64_in _ (by have := HV.out; omega)
        clear hm hM HMul
        obtain ⟨p0, p1, p2, p3, pl⟩ := id Pa
        obtain ⟨q0, q1, q2, q3, ql⟩ := id Pb
        go_wp2_with fail
        refine (HF.out _).mono ?_
        rintro e w2 ⟨rfl, hd⟩
        have HW2 := Lib.hid (thn HW.out (hd.below _))
        replace Pa := Pa.next (hd.below _)
        clear hd p0 p1 p2 p3 pl q0 q1 q2 q3 ql HW Pb
        obtain ⟨p0, p1, p2, p3, pl⟩ := id Pa
        go_wp2_with fail
        go_ret
        exact ⟨rfl, HW2.out⟩
end Go.Proofs.Ytfchbgcgdcoplaa
