/- The tables of the atmosphere, Floor and Ceil. -/
import Derived.Test.YtfchbgcgdcoplaaScaleA
import Derived.Test.YtfchbgcgdcoplaaCells
import Derived.Test.YtfchbgcgdcoplaaTabP
namespace Go.Proofs.Ytfchbgcgdcoplaa
open Go.RowKit Go.Joins Fdk
set_option linter.unusedVariables false
/-- the elements of a slice of pairs. -/
def PosAt (w : World) (b off n : Nat) (A B : Nat → Int) : Prop := ∀ i, i < n → w.cell? ⟨b, off + i * 2, none⟩ = some (.int .i64 (A i)) ∧ w.cell? ⟨b, off + i * 2 + 1, none⟩ = some (.int .i64 (B i))
theorem PosAt.next {w w' : World} {b off n : Nat} {A B : Nat → Int} (h : PosAt w b off n A B) (hb : b < w.heap.size) (k : Below w.heap.size w w') : PosAt w' b off n A B := fun i hi => by
  obtain ⟨h1, h2⟩ := h i hi
  exact ⟨(k.cell (p := ⟨b, off + i * 2, none⟩) hb).trans h1, (k.cell (p := ⟨b, off + i * 2 + 1, none⟩) hb).trans h2⟩
/-- a table in memory. -/
structure TabAt (w : World) (b n : Nat) (A B : Nat → Int) : Prop where
  lt : b < w.heap.size
  at_ : PosAt w b 0 n A B
theorem TabAt.next {w w' : World} {b n : Nat} {A B : Nat → Int} (h : TabAt w b n A B) (k : Below w.heap.size w w') : TabAt w' b n A B := ⟨Nat.lt_of_lt_of_le h.lt k.size, h.at_.next h.lt k⟩
set_option maxRecDepth 4000 in
theorem prs_any (w : World) : Calls Try.prog 14 #[] w fun e w' => (∃ b, w.heap.size ≤ b ∧ e = .returned (.slice (some ⟨b, 0, none⟩) 14 14) ∧ TabAt w' b 14 (la prs) (lb prs)) ∧ Below w.heap.size w w' := by
  go_enter Try.func14, Try.ntmps14
  go_wp2_with fail
  go_ret
  refine ⟨⟨_, Nat.le_refl _, rfl, ⟨by simp, fun i hi => ?_⟩⟩, below_alloc1 w _⟩
  have e : (w.alloc (.cells #[.int .i64 (-2000), .int .i64 1074400, .int .i64 0, .int .i64 1000000, .int .i64 5000, .int .i64 832000, .int .i64 10000, .int .i64 687700, .int .i64 15000, .int .i64 564300, .int .i64 20000, .int .i64 459500, .int .i64 25000, .int .i64 371100, .int .i64 30000, .int .i64 297000, .int .i64 35000, .int .i64 235300, .int .i64 40000, .int .i64 185100, .int .i64 45000, .int .i64 145500, .int .i64 50000, .int .i64 114500, .int .i64 55000, .int .i64 90000, .int .i64 60000, .int .i64 70800] 37)).heap[w.heap.size]? = some (.cells #[.int .i64 (-2000), .int .i64 1074400, .int .i64 0, .int .i64 1000000, .int .i64 5000, .int .i64 832000, .int .i64 10000, .int .i64 687700, .int .i64 15000, .int .i64 564300, .int .i64 20000, .int .i64 459500, .int .i64 25000, .int .i64 371100, .int .i64 30000, .int .i64 297000, .int .i64 35000, .int .i64 235300, .int .i64 40000, .int .i64 185100, .int .i64 45000, .int .i64 145500, .int .i64 50000, .int .i64 114500, .int .i64 55000, .int .i64 90000, .int .i64 60000, .int .i64 70800] 37) := by show (w.heap.push _)[w.heap.size]? = _; simp
  match i, hi with
  | 0, _ => exact ⟨by simp only [World.cell?, e]; rfl, by simp only [World.cell?, e]; rfl⟩
  | 1, _ => exact ⟨by simp only [World.cell?, e]; rfl, by simp only [World.cell?, e]; rfl⟩
  | 2, _ => exact ⟨by simp only [World.cell?, e]; rfl, by simp only [World.cell?, e]; rfl⟩
  | 3, _ => exact ⟨by simp only [World.cell?, e]; rfl, by simp only [World.cell?, e]; rfl⟩
  | 4, _ => exact ⟨by simp only [World.cell?, e]; rfl, by simp only [World.cell?, e]; rfl⟩
  | 5, _ => exact ⟨by simp only [World.cell?, e]; rfl, by simp only [World.cell?, e]; rfl⟩
  | 6, _ => exact ⟨by simp only [World.cell?, e]; rfl, by simp only [World.cell?, e]; rfl⟩
  | 7, _ => exact ⟨by simp only [World.cell?, e]; rfl, by simp only [World.cell?, e]; rfl⟩
  | 8, _ => exact ⟨by simp only [World.cell?, e]; rfl, by simp only [World.cell?, e]; rfl⟩
  | 9, _ => exact ⟨by simp only [World.cell?, e]; rfl, by simp only [World.cell?, e]; rfl⟩
  | 10, _ => exact ⟨by simp only [World.cell?, e]; rfl, by simp only [World.cell?, e]; rfl⟩
  | 11, _ => exact ⟨by simp only [World.cell?, e]; rfl, by simp only [World.cell?, e]; rfl⟩
  | 12, _ => exact ⟨by simp only [World.cell?, e]; rfl, by simp only [World.cell?, e]; rfl⟩
  | 13, _ => exact ⟨by simp only [World.cell?, e]; rfl, by simp only [World.cell?, e]; rfl⟩
set_option maxRecDepth 4000 in
theorem rts_any (w : World) : Calls Try.prog 24 #[] w fun e w' => (∃ b, w.heap.size ≤ b ∧ e = .returned (.slice (some ⟨b, 0, none⟩) 14 14) ∧ TabAt w' b 14 (la rts) (lb rts)) ∧ Below w.heap.size w w' := by
  go_enter Try.func24, Try.ntmps24
  go_wp2_with fail
  go_ret
  refine ⟨⟨_, Nat.le_refl _, rfl, ⟨by simp, fun i hi => ?_⟩⟩, below_alloc1 w _⟩
  have e : (w.alloc (.cells #[.int .i64 (-2000), .int .i64 971400, .int .i64 0, .int .i64 1000000, .int .i64 5000, .int .i64 1077300, .int .i64 10000, .int .i64 1163700, .int .i64 15000, .int .i64 1260600, .int .i64 20000, .int .i64 1370000, .int .i64 25000, .int .i64 1493800, .int .i64 30000, .int .i64 1634900, .int .i64 35000, .int .i64 1796400, .int .i64 40000, .int .i64 2015500, .int .i64 45000, .int .i64 2272700, .int .i64 50000, .int .i64 2562800, .int .i64 55000, .int .i64 2890100, .int .i64 60000, .int .i64 3259100] 37)).heap[w.heap.size]? = some (.cells #[.int .i64 (-2000), .int .i64 971400, .int .i64 0, .int .i64 1000000, .int .i64 5000, .int .i64 1077300, .int .i64 10000, .int .i64 1163700, .int .i64 15000, .int .i64 1260600, .int .i64 20000, .int .i64 1370000, .int .i64 25000, .int .i64 1493800, .int .i64 30000, .int .i64 1634900, .int .i64 35000, .int .i64 1796400, .int .i64 40000, .int .i64 2015500, .int .i64 45000, .int .i64 2272700, .int .i64 50000, .int .i64 2562800, .int .i64 55000, .int .i64 2890100, .int .i64 60000, .int .i64 3259100] 37) := by show (w.heap.push _)[w.heap.size]? = _; simp
  match i, hi with
  | 0, _ => exact ⟨by simp only [World.cell?, e]; rfl, by simp only [World.cell?, e]; rfl⟩
  | 1, _ => exact ⟨by simp only [World.cell?, e]; rfl, by simp only [World.cell?, e]; rfl⟩
  | 2, _ => exact ⟨by simp only [World.cell?, e]; rfl, by simp only [World.cell?, e]; rfl⟩
  | 3, _ => exact ⟨by simp only [World.cell?, e]; rfl, by simp only [World.cell?, e]; rfl⟩
  | 4, _ => exact ⟨by simp only [World.cell?, e]; rfl, by simp only [World.cell?, e]; rfl⟩
  | 5, _ => exact ⟨by simp only [World.cell?, e]; rfl, by simp only [World.cell?, e]; rfl⟩
  | 6, _ => exact ⟨by simp only [World.cell?, e]; rfl, by simp only [World.cell?, e]; rfl⟩
  | 7, _ => exact ⟨by simp only [World.cell?, e]; rfl, by simp only [World.cell?, e]; rfl⟩
  | 8, _ => exact ⟨by simp only [World.cell?, e]; rfl, by simp only [World.cell?, e]; rfl⟩
  | 9, _ => exact ⟨by simp only [World.cell?, e]; rfl, by simp only [World.cell?, e]; rfl⟩
  | 10, _ => exact ⟨by simp only [World.cell?, e]; rfl, by simp only [World.cell?, e]; rfl⟩
  | 11, _ => exact ⟨by simp only [World.cell?, e]; rfl, by simp only [World.cell?, e]; rfl⟩
  | 12, _ => exact ⟨by simp only [World.cell?, e]; rfl, by simp only [World.cell?, e]; rfl⟩
  | 13, _ => exact ⟨by simp only [World.cell?, e]; rfl, by simp only [World.cell?, e]; rfl⟩
set_option maxRecDepth 4000 in
theorem tmps_any (w : World) : Calls Try.prog 28 #[] w fun e w' => (∃ b, w.heap.size ≤ b ∧ e = .returned (.slice (some ⟨b, 0, none⟩) 4 4) ∧ TabAt w' b 4 (la tmps) (lb tmps)) ∧ Below w.heap.size w w' := by
  go_enter Try.func28, Try.ntmps28
  go_wp2_with fail
  go_ret
  refine ⟨⟨_, Nat.le_refl _, rfl, ⟨by simp, fun i hi => ?_⟩⟩, below_alloc1 w _⟩
  have e : (w.alloc (.cells #[.int .i64 (-2000), .int .i64 29211, .int .i64 0, .int .i64 28815, .int .i64 36089, .int .i64 21665, .int .i64 60000, .int .i64 21665] 37)).heap[w.heap.size]? = some (.cells #[.int .i64 (-2000), .int .i64 29211, .int .i64 0, .int .i64 28815, .int .i64 36089, .int .i64 21665, .int .i64 60000, .int .i64 21665] 37) := by show (w.heap.push _)[w.heap.size]? = _; simp
  match i, hi with
  | 0, _ => exact ⟨by simp only [World.cell?, e]; rfl, by simp only [World.cell?, e]; rfl⟩
  | 1, _ => exact ⟨by simp only [World.cell?, e]; rfl, by simp only [World.cell?, e]; rfl⟩
  | 2, _ => exact ⟨by simp only [World.cell?, e]; rfl, by simp only [World.cell?, e]; rfl⟩
  | 3, _ => exact ⟨by simp only [World.cell?, e]; rfl, by simp only [World.cell?, e]; rfl⟩
theorem floor_any (a c : Int) (w : World) (h0 : -4611686018427387904 ≤ a) (h1 : a ≤ 4611686018427387904) (c0 : 1 ≤ c) (c1 : c ≤ 9223372036854775807) :
    Calls Try.prog 22 #[.int .i64 a, .int .i64 c] w fun e w' => e = TwoI (a / c) 0 ∧ Drew w w' := by
  have ei : iabs 1 = 1 := by unfold iabs; rw [if_neg (by omega)]
  have hq : Hid (Calls Try.prog 27 #[.int .i64 a, .int .i64 1, .int .i64 c, .int .u8 0] w fun e w' => e = TwoI (qdown (a * 1) c) 0 ∧ Drew w w') := by
    have ha : iabs a ≤ 4611686018427387904 ∧ 0 ≤ iabs a := by unfold iabs; split <;> omega
    have hd : iabs a / c ≤ iabs a := Int.ediv_le_self _ ha.2
    by_cases hs : 0 ≤ a
    · exact Lib.hid (scale0_pp a 1 c w (by omega) (by omega) (by omega) (by omega) c0 c1 (by rw [ei]; omega) (by rw [ei, Int.mul_one]; omega) (lt_dec.1 hs) (lt_dec.1 (by omega)) (by rw [ei]; unfold iabs; rw [if_neg (by omega)]))
    · exact Lib.hid (scale0_np a 1 c w (by omega) (by omega) (by omega) (by omega) c0 c1 (by rw [ei]; omega) (by rw [ei, Int.mul_one]; omega) (lt_dec.2 (by omega)) (lt_dec.1 (by omega)) (by rw [ei]; unfold iabs; rw [if_pos (by omega)]; omega))
  have e1 : qdown (a * 1) c = a / c := by unfold qdown; rw [Int.mul_one]
  rw [e1] at hq
  go_enter Try.func22, Try.ntmps22
  go_wp2_with fail
  refine hq.out.mono ?_
  rintro e w' ⟨rfl, hd⟩
  have HD := Lib.hid hd
  clear hd
  go_wp2
  go_ret2
  exact ⟨rfl, HD.out⟩
theorem ceil_any (a c : Int) (w : World) (h0 : 0 ≤ a) (h1 : a ≤ 4611686018427387904) (c0 : 1 ≤ c) (c1 : c ≤ 9223372036854775807) :
    Calls Try.prog 18 #[.int .i64 a, .int .i64 c] w fun e w' => e = TwoI (qup a c) 0 ∧ Drew w w' := by
  have ei : iabs 1 = 1 := by unfold iabs; rw [if_neg (by omega)]
  have hq : Hid (Calls Try.prog 27 #[.int .i64 a, .int .i64 1, .int .i64 c, .int .u8 1] w fun e w' => e = TwoI (qup (a * 1) c) 0 ∧ Drew w w') := by
    have ha : iabs a = a := by unfold iabs; rw [if_neg (by omega)]
    have hd : a / c ≤ a := Int.ediv_le_self _ h0
    exact Lib.hid (scale1_pp a 1 c w (by omega) (by omega) (by omega) (by omega) c0 c1 (by rw [ei, ha]; omega) (by rw [ei, ha, Int.mul_one]; omega) (lt_dec.1 h0) (lt_dec.1 (by omega)) (by rw [ei, ha]))
  rw [Int.mul_one] at hq
  go_enter Try.func18, Try.ntmps18
  go_wp2_with fail
  refine hq.out.mono ?_
  rintro e w' ⟨rfl, hd⟩
  have HD := Lib.hid hd
  clear hd
  go_wp2
  go_ret2
  exact ⟨rfl, HD.out⟩
end Go.Proofs.Ytfchbgcgdcoplaa
