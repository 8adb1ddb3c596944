/- The contract of constraint.excess. -/
import Derived.Test.YtkhklhibimihfaaPairB
namespace Go.Proofs.Ytkhklhibimihfaa
open Go.RowKit Go.Joins Fdk
set_option linter.unusedVariables false
theorem c2_new1 (w : World) (o : Obj) (x y : Value) (t : TypeId) : C2 ((w.alloc o).alloc (.cells #[x, y] t)).drew (w.heap.size + 1) x y := by
  have g := (c2_new (w.alloc o) x y t).drew
  rw [show (w.alloc o).heap.size = w.heap.size + 1 by simp] at g
  exact g
theorem alc2d (w : World) (o1 o2 : Obj) : Below w.heap.size w ((w.alloc o1).alloc o2).drew := thn (below_alloc2 w o1 o2) (bdrew _)
set_option maxHeartbeats 4000000 in
theorem excess_a (b off n c : Nat) (A B : Nat → Int) (p : Option Addr) (m d : Nat) (U D : Nat → Int) (i : Nat) (w : World) (hbw : b < w.heap.size) (hP : PosAt w b off n A B) (hS : S2 w p m d U D) (K : Okc n m A B U D) (hi : i < n) :
    Calls Try.prog 11 #[.slice (some ⟨b, off, none⟩) n c, .slice p m d, .int .i64 i, .int .i64 i] w fun e w' => e = .returned (.int .i64 (A i - B i)) ∧ Below w.heap.size w w' := by
  have L0 : ∀ w', Below w.heap.size w w' → w'.cell? ⟨b, off + i * 2, none⟩ = some (.int .i64 (A i)) := fun w' h => ((hP.next hbw h) i hi).1
  have L1 : ∀ w', Below w.heap.size w w' → w'.cell? ⟨b, off + i * 2 + 1, none⟩ = some (.int .i64 (B i)) := fun w' h => ((hP.next hbw h) i hi).2
  have HI := Lib.hid (K.w i hi)
  have i0 : (0 : Int) ≤ i := Int.natCast_nonneg i
  have i1 : (i : Int) < n := by have := K.n64; omega
  have e1 : IntKind.i64.wrap (A i - B i) = A i - B i := IntWalk.i64_in _ (by have := HI.out; omega)
  clear hP hS K
  generalize A i = x at *
  generalize B i = y at *
  go_enter Try.func11, Try.ntmps11
  go_wp2_with fail
  go_cut [9, 10] (fun s9 s10 wx => ∃ ba bb : Nat, s9 = .pointer (some ⟨ba, 0, none⟩) ∧ s10 = .pointer (some ⟨bb, 0, none⟩) ∧ C2 wx ba (.int .i64 x) (.int .i64 y) ∧ C2 wx bb (.int .i64 x) (.int .i64 y) ∧ Below w.heap.size w wx)
  case first =>
    go_region_held3 (fun w' => Below w.heap.size w w') (go_grown) (fail)
    · go_wp2_with fail
      go_meet
      exact ⟨_, _, rfl, rfl, ((c2_new w _ _ _).alc _).drew, c2_new1 w _ _ _ _, alc2d w _ _⟩
    · go_wp2_with fail
      go_meet
      exact ⟨_, _, rfl, rfl, c2_new1 w _ _ _ _, ((c2_new w _ _ _).alc _).drew, alc2d w _ _⟩
  case rest =>
  obtain ⟨ba, bb, rfl, rfl, P, R, hB⟩ := hcut
  have HB := Lib.hid hB
  clear hB
  clear L0 L1
  obtain ⟨p0, p1, p2, p3, pl⟩ := id P
  obtain ⟨r0, r1, r2, r3, rl⟩ := id R
  go_wp2_with fail
  go_ret
  exact ⟨rfl, HB.out⟩
set_option maxHeartbeats 4000000 in
theorem excess_0 (b off n c : Nat) (A B : Nat → Int) (p : Option Addr) (m d : Nat) (U D : Nat → Int) (i j : Nat) (w : World) (hbw : b < w.heap.size) (hP : PosAt w b off n A B) (hS : S2 w p m d U D) (K : Okc n m A B U D) (hi : i < n) (hj : j < n) (hij : i < j) (h1 : A i > B i) :
    Calls Try.prog 11 #[.slice (some ⟨b, off, none⟩) n c, .slice p m d, .int .i64 i, .int .i64 j] w fun e w' => e = .returned (.int .i64 (0)) ∧ Below w.heap.size w w' := by
  have L0 : ∀ w', Below w.heap.size w w' → w'.cell? ⟨b, off + i * 2, none⟩ = some (.int .i64 (A i)) := fun w' h => ((hP.next hbw h) i hi).1
  have L1 : ∀ w', Below w.heap.size w w' → w'.cell? ⟨b, off + i * 2 + 1, none⟩ = some (.int .i64 (B i)) := fun w' h => ((hP.next hbw h) i hi).2
  have L2 : ∀ w', Below w.heap.size w w' → w'.cell? ⟨b, off + j * 2, none⟩ = some (.int .i64 (A j)) := fun w' h => ((hP.next hbw h) j hj).1
  have L3 : ∀ w', Below w.heap.size w w' → w'.cell? ⟨b, off + j * 2 + 1, none⟩ = some (.int .i64 (B j)) := fun w' h => ((hP.next hbw h) j hj).2
  have HI := Lib.hid (K.w i hi)
  have HJ := Lib.hid (K.w j hj)
  have i0 : (0 : Int) ≤ i := Int.natCast_nonneg i
  have j0 : (0 : Int) ≤ j := Int.natCast_nonneg j
  have i1 : (i : Int) < n := by have := K.n64; omega
  have j1 : (j : Int) < n := by have := K.n64; omega
  have ne : ¬ (i : Int) = j := by omega
  clear hP hS K
  generalize A i = x at *
  generalize B i = y at *
  generalize A j = x2 at *
  generalize B j = y2 at *
  go_enter Try.func11, Try.ntmps11
  go_wp2_with fail
  go_cut [9, 10] (fun s9 s10 wx => ∃ ba bb : Nat, s9 = .pointer (some ⟨ba, 0, none⟩) ∧ s10 = .pointer (some ⟨bb, 0, none⟩) ∧ C2 wx ba (.int .i64 x) (.int .i64 y) ∧ C2 wx bb (.int .i64 x2) (.int .i64 y2) ∧ Below w.heap.size w wx)
  case first =>
    go_region_held3 (fun w' => Below w.heap.size w w') (go_grown) (fail)
    · go_wp2_with fail
      go_meet
      exact ⟨_, _, rfl, rfl, ((c2_new w _ _ _).alc _).drew, c2_new1 w _ _ _ _, alc2d w _ _⟩
    · go_wp2_with fail
      go_meet
      exact ⟨_, _, rfl, rfl, c2_new1 w _ _ _ _, ((c2_new w _ _ _).alc _).drew, alc2d w _ _⟩
  case rest =>
  obtain ⟨ba, bb, rfl, rfl, P, R, hB⟩ := hcut
  have HB := Lib.hid hB
  clear hB
  clear L0 L1 L2 L3
  obtain ⟨p0, p1, p2, p3, pl⟩ := id P
  obtain ⟨r0, r1, r2, r3, rl⟩ := id R
  go_wp2_with fail
  go_ret
  exact ⟨rfl, HB.out⟩
set_option maxHeartbeats 4000000 in
theorem excess_1 (b off n c : Nat) (A B : Nat → Int) (p : Option Addr) (m d : Nat) (U D : Nat → Int) (i j : Nat) (w : World) (hbw : b < w.heap.size) (hP : PosAt w b off n A B) (hS : S2 w p m d U D) (K : Okc n m A B U D) (hi : i < n) (hj : j < n) (hij : i < j) (h1 : ¬ A i > B i) (h2 : A j > B j) :
    Calls Try.prog 11 #[.slice (some ⟨b, off, none⟩) n c, .slice p m d, .int .i64 i, .int .i64 j] w fun e w' => e = .returned (.int .i64 (0)) ∧ Below w.heap.size w w' := by
  have L0 : ∀ w', Below w.heap.size w w' → w'.cell? ⟨b, off + i * 2, none⟩ = some (.int .i64 (A i)) := fun w' h => ((hP.next hbw h) i hi).1
  have L1 : ∀ w', Below w.heap.size w w' → w'.cell? ⟨b, off + i * 2 + 1, none⟩ = some (.int .i64 (B i)) := fun w' h => ((hP.next hbw h) i hi).2
  have L2 : ∀ w', Below w.heap.size w w' → w'.cell? ⟨b, off + j * 2, none⟩ = some (.int .i64 (A j)) := fun w' h => ((hP.next hbw h) j hj).1
  have L3 : ∀ w', Below w.heap.size w w' → w'.cell? ⟨b, off + j * 2 + 1, none⟩ = some (.int .i64 (B j)) := fun w' h => ((hP.next hbw h) j hj).2
  have HI := Lib.hid (K.w i hi)
  have HJ := Lib.hid (K.w j hj)
  have i0 : (0 : Int) ≤ i := Int.natCast_nonneg i
  have j0 : (0 : Int) ≤ j := Int.natCast_nonneg j
  have i1 : (i : Int) < n := by have := K.n64; omega
  have j1 : (j : Int) < n := by have := K.n64; omega
  have ne : ¬ (i : Int) = j := by omega
  clear hP hS K
  generalize A i = x at *
  generalize B i = y at *
  generalize A j = x2 at *
  generalize B j = y2 at *
  go_enter Try.func11, Try.ntmps11
  go_wp2_with fail
  go_cut [9, 10] (fun s9 s10 wx => ∃ ba bb : Nat, s9 = .pointer (some ⟨ba, 0, none⟩) ∧ s10 = .pointer (some ⟨bb, 0, none⟩) ∧ C2 wx ba (.int .i64 x) (.int .i64 y) ∧ C2 wx bb (.int .i64 x2) (.int .i64 y2) ∧ Below w.heap.size w wx)
  case first =>
    go_region_held3 (fun w' => Below w.heap.size w w') (go_grown) (fail)
    · go_wp2_with fail
      go_meet
      exact ⟨_, _, rfl, rfl, ((c2_new w _ _ _).alc _).drew, c2_new1 w _ _ _ _, alc2d w _ _⟩
    · go_wp2_with fail
      go_meet
      exact ⟨_, _, rfl, rfl, c2_new1 w _ _ _ _, ((c2_new w _ _ _).alc _).drew, alc2d w _ _⟩
  case rest =>
  obtain ⟨ba, bb, rfl, rfl, P, R, hB⟩ := hcut
  have HB := Lib.hid hB
  clear hB
  clear L0 L1 L2 L3
  obtain ⟨p0, p1, p2, p3, pl⟩ := id P
  obtain ⟨r0, r1, r2, r3, rl⟩ := id R
  go_wp2_with fail
  go_ret
  exact ⟨rfl, HB.out⟩
set_option maxHeartbeats 4000000 in
theorem excess_2 (b off n c : Nat) (A B : Nat → Int) (p : Option Addr) (m d : Nat) (U D : Nat → Int) (i j : Nat) (w : World) (hbw : b < w.heap.size) (hP : PosAt w b off n A B) (hS : S2 w p m d U D) (K : Okc n m A B U D) (hi : i < n) (hj : j < n) (hij : i < j) (h1 : ¬ A i > B i) (h2 : ¬ A j > B j) (h3 : ¬ A j - (B i + sm U i (j - i)) < A i - sm D i (j - i) - B j) :
    Calls Try.prog 11 #[.slice (some ⟨b, off, none⟩) n c, .slice p m d, .int .i64 i, .int .i64 j] w fun e w' => e = .returned (.int .i64 (A j - (B i + sm U i (j - i)))) ∧ Below w.heap.size w w' := by
  have L0 : ∀ w', Below w.heap.size w w' → w'.cell? ⟨b, off + i * 2, none⟩ = some (.int .i64 (A i)) := fun w' h => ((hP.next hbw h) i hi).1
  have L1 : ∀ w', Below w.heap.size w w' → w'.cell? ⟨b, off + i * 2 + 1, none⟩ = some (.int .i64 (B i)) := fun w' h => ((hP.next hbw h) i hi).2
  have L2 : ∀ w', Below w.heap.size w w' → w'.cell? ⟨b, off + j * 2, none⟩ = some (.int .i64 (A j)) := fun w' h => ((hP.next hbw h) j hj).1
  have L3 : ∀ w', Below w.heap.size w w' → w'.cell? ⟨b, off + j * 2 + 1, none⟩ = some (.int .i64 (B j)) := fun w' h => ((hP.next hbw h) j hj).2
  have HI := Lib.hid (K.w i hi)
  have HJ := Lib.hid (K.w j hj)
  have i0 : (0 : Int) ≤ i := Int.natCast_nonneg i
  have j0 : (0 : Int) ≤ j := Int.natCast_nonneg j
  have i1 : (i : Int) < n := by have := K.n64; omega
  have j1 : (j : Int) < n := by have := K.n64; omega
  have ne : ¬ (i : Int) = j := by omega
  have HBt := Lib.hid (fun (w' : World) (h : Below w.heap.size w w') => between_any p m d U D i (j - i) w' (hS.next h) (by have := K.n64; have := K.mn; omega) (by omega) (by have := K.mn; omega) K.s)
  rw [show i + (j - i) = j by omega] at HBt
  have s1 := sum_b (i := i) (m := m) (fun t ht => (K.s t ht).1) (j - i) (by have := K.mn; omega)
  have s2 := sum_b (i := i) (m := m) (fun t ht => (K.s t ht).2) (j - i) (by have := K.mn; omega)
  have n64 := K.n64
  generalize sm U i (j - i) = up at *
  generalize sm D i (j - i) = dn at *
  have e1 : IntKind.i64.wrap (B i + up) = B i + up := IntWalk.i64_in _ (by have := HI.out; omega)
  have e2 : IntKind.i64.wrap (A j - (B i + up)) = A j - (B i + up) := IntWalk.i64_in _ (by have := HI.out; have := HJ.out; omega)
  have e3 : IntKind.i64.wrap (A i - dn) = A i - dn := IntWalk.i64_in _ (by have := HI.out; omega)
  have e4 : IntKind.i64.wrap (A i - dn - B j) = A i - dn - B j := IntWalk.i64_in _ (by have := HI.out; have := HJ.out; omega)
  clear s1 s2 n64
  clear hP hS K
  generalize A i = x at *
  generalize B i = y at *
  generalize A j = x2 at *
  generalize B j = y2 at *
  go_enter Try.func11, Try.ntmps11
  go_wp2_with fail
  go_cut [9, 10] (fun s9 s10 wx => ∃ ba bb : Nat, s9 = .pointer (some ⟨ba, 0, none⟩) ∧ s10 = .pointer (some ⟨bb, 0, none⟩) ∧ C2 wx ba (.int .i64 x) (.int .i64 y) ∧ C2 wx bb (.int .i64 x2) (.int .i64 y2) ∧ Below w.heap.size w wx)
  case first =>
    go_region_held3 (fun w' => Below w.heap.size w w') (go_grown) (fail)
    · go_wp2_with fail
      go_meet
      exact ⟨_, _, rfl, rfl, ((c2_new w _ _ _).alc _).drew, c2_new1 w _ _ _ _, alc2d w _ _⟩
    · go_wp2_with fail
      go_meet
      exact ⟨_, _, rfl, rfl, c2_new1 w _ _ _ _, ((c2_new w _ _ _).alc _).drew, alc2d w _ _⟩
  case rest =>
  obtain ⟨ba, bb, rfl, rfl, P, R, hB⟩ := hcut
  have HB := Lib.hid hB
  clear hB
  clear L0 L1 L2 L3
  obtain ⟨p0, p1, p2, p3, pl⟩ := id P
  obtain ⟨r0, r1, r2, r3, rl⟩ := id R
  go_wp2_with fail
  refine (HBt.out _ HB.out).mono ?_
  rintro e w2 ⟨rfl, hb⟩
  replace P := P.next hb
  replace R := R.next hb
  replace HB := Lib.hid (thn HB.out hb)
  clear p0 p1 p2 p3 pl r0 r1 r2 r3 rl hb HBt
  obtain ⟨p0, p1, p2, p3, pl⟩ := id P
  obtain ⟨r0, r1, r2, r3, rl⟩ := id R
  go_wp2_with fail
  go_ret
  exact ⟨rfl, HB.out⟩
set_option maxHeartbeats 4000000 in
theorem excess_3 (b off n c : Nat) (A B : Nat → Int) (p : Option Addr) (m d : Nat) (U D : Nat → Int) (i j : Nat) (w : World) (hbw : b < w.heap.size) (hP : PosAt w b off n A B) (hS : S2 w p m d U D) (K : Okc n m A B U D) (hi : i < n) (hj : j < n) (hij : i < j) (h1 : ¬ A i > B i) (h2 : ¬ A j > B j) (h3 : A j - (B i + sm U i (j - i)) < A i - sm D i (j - i) - B j) :
    Calls Try.prog 11 #[.slice (some ⟨b, off, none⟩) n c, .slice p m d, .int .i64 i, .int .i64 j] w fun e w' => e = .returned (.int .i64 (A i - sm D i (j - i) - B j)) ∧ Below w.heap.size w w' := by
  have L0 : ∀ w', Below w.heap.size w w' → w'.cell? ⟨b, off + i * 2, none⟩ = some (.int .i64 (A i)) := fun w' h => ((hP.next hbw h) i hi).1
  have L1 : ∀ w', Below w.heap.size w w' → w'.cell? ⟨b, off + i * 2 + 1, none⟩ = some (.int .i64 (B i)) := fun w' h => ((hP.next hbw h) i hi).2
  have L2 : ∀ w', Below w.heap.size w w' → w'.cell? ⟨b, off + j * 2, none⟩ = some (.int .i64 (A j)) := fun w' h => ((hP.next hbw h) j hj).1
  have L3 : ∀ w', Below w.heap.size w w' → w'.cell? ⟨b, off + j * 2 + 1, none⟩ = some (.int .i64 (B j)) := fun w' h => ((hP.next hbw h) j hj).2
  have HI := Lib.hid (K.w i hi)
  have HJ := Lib.hid (K.w j hj)
  have i0 : (0 : Int) ≤ i := Int.natCast_nonneg i
  have j0 : (0 : Int) ≤ j := Int.natCast_nonneg j
  have i1 : (i : Int) < n := by have := K.n64; omega
  have j1 : (j : Int) < n := by have := K.n64; omega
  have ne : ¬ (i : Int) = j := by omega
  have HBt := Lib.hid (fun (w' : World) (h : Below w.heap.size w w') => between_any p m d U D i (j - i) w' (hS.next h) (by have := K.n64; have := K.mn; omega) (by omega) (by have := K.mn; omega) K.s)
  rw [show i + (j - i) = j by omega] at HBt
  have s1 := sum_b (i := i) (m := m) (fun t ht => (K.s t ht).1) (j - i) (by have := K.mn; omega)
  have s2 := sum_b (i := i) (m := m) (fun t ht => (K.s t ht).2) (j - i) (by have := K.mn; omega)
  have n64 := K.n64
  generalize sm U i (j - i) = up at *
  generalize sm D i (j - i) = dn at *
  have e1 : IntKind.i64.wrap (B i + up) = B i + up := IntWalk.i64_in _ (by have := HI.out; omega)
  have e2 : IntKind.i64.wrap (A j - (B i + up)) = A j - (B i + up) := IntWalk.i64_in _ (by have := HI.out; have := HJ.out; omega)
  have e3 : IntKind.i64.wrap (A i - dn) = A i - dn := IntWalk.i64_in _ (by have := HI.out; omega)
  have e4 : IntKind.i64.wrap (A i - dn - B j) = A i - dn - B j := IntWalk.i64_in _ (by have := HI.out; have := HJ.out; omega)
  clear s1 s2 n64
  clear hP hS K
  generalize A i = x at *
  generalize B i = y at *
  generalize A j = x2 at *
  generalize B j = y2 at *
  go_enter Try.func11, Try.ntmps11
  go_wp2_with fail
  go_cut [9, 10] (fun s9 s10 wx => ∃ ba bb : Nat, s9 = .pointer (some ⟨ba, 0, none⟩) ∧ s10 = .pointer (some ⟨bb, 0, none⟩) ∧ C2 wx ba (.int .i64 x) (.int .i64 y) ∧ C2 wx bb (.int .i64 x2) (.int .i64 y2) ∧ Below w.heap.size w wx)
  case first =>
    go_region_held3 (fun w' => Below w.heap.size w w') (go_grown) (fail)
    · go_wp2_with fail
      go_meet
      exact ⟨_, _, rfl, rfl, ((c2_new w _ _ _).alc _).drew, c2_new1 w _ _ _ _, alc2d w _ _⟩
    · go_wp2_with fail
      go_meet
      exact ⟨_, _, rfl, rfl, c2_new1 w _ _ _ _, ((c2_new w _ _ _).alc _).drew, alc2d w _ _⟩
  case rest =>
  obtain ⟨ba, bb, rfl, rfl, P, R, hB⟩ := hcut
  have HB := Lib.hid hB
  clear hB
  clear L0 L1 L2 L3
  obtain ⟨p0, p1, p2, p3, pl⟩ := id P
  obtain ⟨r0, r1, r2, r3, rl⟩ := id R
  go_wp2_with fail
  refine (HBt.out _ HB.out).mono ?_
  rintro e w2 ⟨rfl, hb⟩
  replace P := P.next hb
  replace R := R.next hb
  replace HB := Lib.hid (thn HB.out hb)
  clear p0 p1 p2 p3 pl r0 r1 r2 r3 rl hb HBt
  obtain ⟨p0, p1, p2, p3, pl⟩ := id P
  obtain ⟨r0, r1, r2, r3, rl⟩ := id R
  go_wp2_with fail
  go_ret
  exact ⟨rfl, HB.out⟩
theorem excess_any (q p : Option Addr) (n c m d : Nat) (A B U D : Nat → Int) (i j : Nat) (w : World) (hW : S2 w q n c A B) (hS : S2 w p m d U D) (K : Okc n m A B U D) (hij : i ≤ j) (hj : j < n) :
    Calls Try.prog 11 #[.slice q n c, .slice p m d, .int .i64 i, .int .i64 j] w fun e w' => e = .returned (.int .i64 (exv A B U D i j)) ∧ Below w.heap.size w w' := by
  obtain ⟨b, off, rfl, hbw, hP⟩ := hW.el (by omega)
  unfold exv
  by_cases e : i = j
  · subst e
    rw [if_pos rfl]
    exact excess_a b off n c A B p m d U D i w hbw hP hS K hj
  · rw [if_neg e]
    by_cases h1 : A i > B i
    · rw [if_pos (.inl h1)]
      exact excess_0 b off n c A B p m d U D i j w hbw hP hS K (by omega) hj (by omega) h1
    · by_cases h2 : A j > B j
      · rw [if_pos (.inr h2)]
        exact excess_1 b off n c A B p m d U D i j w hbw hP hS K (by omega) hj (by omega) h1 h2
      · rw [if_neg (fun h => h.elim h1 h2)]
        by_cases h3 : ¬ A j - (B i + sm U i (j - i)) < A i - sm D i (j - i) - B j
        · rw [show max (A j - (B i + sm U i (j - i))) (A i - sm D i (j - i) - B j) = A j - (B i + sm U i (j - i)) by omega]
          exact excess_2 b off n c A B p m d U D i j w hbw hP hS K (by omega) hj (by omega) h1 h2 h3
        · rw [show max (A j - (B i + sm U i (j - i))) (A i - sm D i (j - i) - B j) = A i - sm D i (j - i) - B j by omega]
          exact excess_3 b off n c A B p m d U D i j w hbw hP hS K (by omega) hj (by omega) h1 h2 (Decidable.of_not_not h3)
end Go.Proofs.Ytkhklhibimihfaa
