/- Boxes of chapter 45: valid, inside, within, coasted, merged, the reach; both sides. -/
import Derived.Test.YtfeoladkpgojpaaBox
import Derived.Lib.SmallJoins
namespace Go.Proofs.Ytfeoladkpgojpaa
open Go.RowKit Go.Joins
set_option linter.unusedVariables false

theorem thn {a b c : World} (h : Below a.heap.size a b) (k : Below b.heap.size b c) : Below a.heap.size a c := h.trans (k.mono h.size)
theorem alc {a b : World} (h : Below a.heap.size a b) (o : Obj) : Below a.heap.size a (b.alloc o) := h.alloc h.size o
/-- a block of four cells, as it was laid. -/
structure Cell4 (w : World) (b : Nat) (x y r s : Value) : Prop where
  c0 : w.cell? ⟨b, 0, none⟩ = some x
  c1 : w.cell? ⟨b, 1, none⟩ = some y
  c2 : w.cell? ⟨b, 2, none⟩ = some r
  c3 : w.cell? ⟨b, 3, none⟩ = some s
  f0 : w.frozen? ⟨b, 0, none⟩ = false
  f1 : w.frozen? ⟨b, 1, none⟩ = false
  f2 : w.frozen? ⟨b, 2, none⟩ = false
  f3 : w.frozen? ⟨b, 3, none⟩ = false
  lt : b < w.heap.size
theorem cell4_new (w : World) (x y r s : Value) (t : TypeId) : Cell4 (w.alloc (.cells #[x, y, r, s] t)) w.heap.size x y r s := by
  have e : (w.alloc (.cells #[x, y, r, s] t)).heap[w.heap.size]? = some (.cells #[x, y, r, s] t) := by show (w.heap.push _)[w.heap.size]? = _; simp
  exact ⟨by simp only [World.cell?, e]; rfl, by simp only [World.cell?, e]; rfl, by simp only [World.cell?, e]; rfl, by simp only [World.cell?, e]; rfl, by simp only [World.frozen?, e]; rfl, by simp only [World.frozen?, e]; rfl, by simp only [World.frozen?, e]; rfl, by simp only [World.frozen?, e]; rfl, by show _ < (w.heap.push _).size; simp⟩
theorem Cell4.below {w w1 : World} {b B : Nat} {x y r s : Value} (h : Cell4 w b x y r s) (hb : Below B w w1) (hB : b < B) : Cell4 w1 b x y r s :=
  ⟨(hb.cell (p := ⟨b, 0, none⟩) hB).trans h.c0, (hb.cell (p := ⟨b, 1, none⟩) hB).trans h.c1, (hb.cell (p := ⟨b, 2, none⟩) hB).trans h.c2, (hb.cell (p := ⟨b, 3, none⟩) hB).trans h.c3, (hb.frozen (p := ⟨b, 0, none⟩) hB).trans h.f0, (hb.frozen (p := ⟨b, 1, none⟩) hB).trans h.f1, (hb.frozen (p := ⟨b, 2, none⟩) hB).trans h.f2, (hb.frozen (p := ⟨b, 3, none⟩) hB).trans h.f3, Nat.lt_of_lt_of_le h.lt hb.size⟩
theorem Cell4.next {w w1 : World} {b : Nat} {x y r s : Value} (h : Cell4 w b x y r s) (hb : Below w.heap.size w w1) : Cell4 w1 b x y r s := h.below hb h.lt
theorem Cell4.alc {w : World} {b : Nat} {x y r s : Value} (h : Cell4 w b x y r s) (o : Obj) : Cell4 (w.alloc o) b x y r s := h.next (below_alloc1 w o)
theorem csame {w : World} {a : Addr} {v u : Value} (h : w.cell? a = some u) : (w.setCell a v).cell? a = some v := World.cell?_setCell_same' w a v (by rw [h]; rfl)
theorem cother {w : World} {a b : Addr} {v : Value} (h : a ≠ b) : (w.setCell a v).cell? b = w.cell? b := World.cell?_setCell_other _ _ _ _ h
theorem Cell4.put0 {w : World} {b : Nat} {x y r s : Value} (h : Cell4 w b x y r s) (v : Value) : Cell4 (w.setCell ⟨b, 0, none⟩ v) b v y r s :=
  ⟨csame h.c0, (cother (by simp)).trans h.c1, (cother (by simp)).trans h.c2, (cother (by simp)).trans h.c3, by simp [h.f0], by simp [h.f1], by simp [h.f2], by simp [h.f3], by simp [h.lt]⟩
theorem Cell4.put1 {w : World} {b : Nat} {x y r s : Value} (h : Cell4 w b x y r s) (v : Value) : Cell4 (w.setCell ⟨b, 1, none⟩ v) b x v r s :=
  ⟨(cother (by simp)).trans h.c0, csame h.c1, (cother (by simp)).trans h.c2, (cother (by simp)).trans h.c3, by simp [h.f0], by simp [h.f1], by simp [h.f2], by simp [h.f3], by simp [h.lt]⟩
theorem Cell4.put2 {w : World} {b : Nat} {x y r s : Value} (h : Cell4 w b x y r s) (v : Value) : Cell4 (w.setCell ⟨b, 2, none⟩ v) b x y v s :=
  ⟨(cother (by simp)).trans h.c0, (cother (by simp)).trans h.c1, csame h.c2, (cother (by simp)).trans h.c3, by simp [h.f0], by simp [h.f1], by simp [h.f2], by simp [h.f3], by simp [h.lt]⟩
theorem Cell4.put3 {w : World} {b : Nat} {x y r s : Value} (h : Cell4 w b x y r s) (v : Value) : Cell4 (w.setCell ⟨b, 3, none⟩ v) b x y r v :=
  ⟨(cother (by simp)).trans h.c0, (cother (by simp)).trans h.c1, (cother (by simp)).trans h.c2, csame h.c3, by simp [h.f0], by simp [h.f1], by simp [h.f2], by simp [h.f3], by simp [h.lt]⟩
theorem Cell4.put {w : World} {b : Nat} {x y r s : Value} (h : Cell4 w b x y r s) (x' y' r' s' : Value) : Cell4 ((((w.setCell ⟨b, 0, none⟩ x').setCell ⟨b, 1, none⟩ y').setCell ⟨b, 2, none⟩ r').setCell ⟨b, 3, none⟩ s') b x' y' r' s' :=
  (((h.put0 x').put1 y').put2 r').put3 s'
theorem Cell4.else {w : World} {b : Nat} {x y r s : Value} (h : Cell4 w b x y r s) {p : Addr} (hp : p.block ≠ b) (v : Value) : Cell4 (w.setCell p v) b x y r s :=
  ⟨(cother (fun e => hp (by rw [e]))).trans h.c0, (cother (fun e => hp (by rw [e]))).trans h.c1, (cother (fun e => hp (by rw [e]))).trans h.c2, (cother (fun e => hp (by rw [e]))).trans h.c3, by simp [h.f0], by simp [h.f1], by simp [h.f2], by simp [h.f3], by simp [h.lt]⟩
theorem Cell4.else4 {w : World} {b : Nat} {x y r s : Value} (h : Cell4 w b x y r s) {p0 p1 p2 p3 : Addr} (h0 : p0.block ≠ b) (h1 : p1.block ≠ b) (h2 : p2.block ≠ b) (h3 : p3.block ≠ b) (v0 v1 v2 v3 : Value) : Cell4 ((((w.setCell p0 v0).setCell p1 v1).setCell p2 v2).setCell p3 v3) b x y r s :=
  (((h.else h0 v0).else h1 v1).else h2 v2).else h3 v3
theorem put4b {a w : World} (h : Below a.heap.size a w) {p0 p1 p2 p3 : Addr} (h0 : a.heap.size ≤ p0.block) (h1 : a.heap.size ≤ p1.block) (h2 : a.heap.size ≤ p2.block) (h3 : a.heap.size ≤ p3.block) (v0 v1 v2 v3 : Value) : Below a.heap.size a ((((w.setCell p0 v0).setCell p1 v1).setCell p2 v2).setCell p3 v3) :=
  (((h.setCell h0 v0).setCell h1 v1).setCell h2 v2).setCell h3 v3
/-- a block of two cells, as it was laid. -/
structure CellP (w : World) (b : Nat) (x y : Value) : Prop where
  c0 : w.cell? ⟨b, 0, none⟩ = some x
  c1 : w.cell? ⟨b, 1, none⟩ = some y
  f0 : w.frozen? ⟨b, 0, none⟩ = false
  f1 : w.frozen? ⟨b, 1, none⟩ = false
  lt : b < w.heap.size
theorem cellp_new (w : World) (x y : Value) (t : TypeId) : CellP (w.alloc (.cells #[x, y] t)) w.heap.size x y := by
  have e : (w.alloc (.cells #[x, y] t)).heap[w.heap.size]? = some (.cells #[x, y] t) := by show (w.heap.push _)[w.heap.size]? = _; simp
  exact ⟨by simp only [World.cell?, e]; rfl, by simp only [World.cell?, e]; rfl, by simp only [World.frozen?, e]; rfl, by simp only [World.frozen?, e]; rfl, by show _ < (w.heap.push _).size; simp⟩
theorem CellP.below {w w1 : World} {b B : Nat} {x y : Value} (h : CellP w b x y) (hb : Below B w w1) (hB : b < B) : CellP w1 b x y :=
  ⟨(hb.cell (p := ⟨b, 0, none⟩) hB).trans h.c0, (hb.cell (p := ⟨b, 1, none⟩) hB).trans h.c1, (hb.frozen (p := ⟨b, 0, none⟩) hB).trans h.f0, (hb.frozen (p := ⟨b, 1, none⟩) hB).trans h.f1, Nat.lt_of_lt_of_le h.lt hb.size⟩
theorem CellP.next {w w1 : World} {b : Nat} {x y : Value} (h : CellP w b x y) (hb : Below w.heap.size w w1) : CellP w1 b x y := h.below hb h.lt
theorem CellP.alc {w : World} {b : Nat} {x y : Value} (h : CellP w b x y) (o : Obj) : CellP (w.alloc o) b x y := h.next (below_alloc1 w o)

theorem inb_of {x lo hi : Int} (h : inb x lo hi = true) : lo ≤ x ∧ x ≤ hi := by simpa [inb] using h
theorem bv_of {x y r s : Int} (h : bv x y r s = true) : (-2000000 ≤ x ∧ x ≤ 2000000) ∧ (-2000000 ≤ y ∧ y ≤ 2000000) ∧ (0 ≤ r ∧ r ≤ 2000000) ∧ 0 ≤ s ∧ s ≤ 2000000 := by
  simp only [bv, pv, Bool.and_eq_true] at h
  exact ⟨inb_of h.1.1.1, inb_of h.1.1.2, inb_of h.1.2, inb_of h.2⟩
/-- a box is valid and contains a point. -/
def ins (x y r s p q : Int) : Bool := bv x y r s && (inb p (x - r) (x + r) && inb q (y - s) (y + s))
theorem ins_mid (x y r s : Int) : ins x y r s x y = bv x y r s := by
  unfold ins
  cases h : bv x y r s
  · rfl
  · obtain ⟨h1, h2, h3, h4⟩ := bv_of h
    rw [inb_t (by omega), inb_t (by omega)]; rfl

theorem svalid_any (x y r s : Int) (w : World) :
    Calls Try.prog 32 #[boxV x y r s] w fun e w' => e = .returned (.bool (bv x y r s)) ∧ Below w.heap.size w w' := by
  have hc : (pv x y = false) ∨ (pv x y = true ∧ inb r 0 2000000 = false) ∨ (pv x y = true ∧ inb r 0 2000000 = true ∧ inb s 0 2000000 = false) ∨ (pv x y = true ∧ inb r 0 2000000 = true ∧ inb s 0 2000000 = true) := by
    cases pv x y <;> cases inb r 0 2000000 <;> cases inb s 0 2000000 <;> simp
  rcases hc with h1 | ⟨h1, h2⟩ | ⟨h1, h2, h3⟩ | ⟨h1, h2, h3⟩
  · have b := Lib.hid (show bv x y r s = _ by simp only [bv, h1]; rfl)
    go_enter Try.func32, Try.ntmps32
    go_wp2_with fail
    refine (pvalid_any _ _ _).mono ?_
    rintro e w1 ⟨rfl, hb⟩
    have B := thn (below_alloc1 w _) hb
    obtain ⟨c0, c1, c2, c3, f0, f1, f2, f3, l0⟩ := (cell4_new w _ _ _ _ _).next hb
    rw [h1]
    go_wp2_with (first | (go_at_call 33; refine (sfrom_any _ _ _ _).mono ?_; rintro e w' ⟨rfl, rfl⟩))
    go_ret
    exact ⟨ret_b b.out.symm, B⟩
  · have b := Lib.hid (show bv x y r s = _ by simp only [bv, h1, h2]; rfl)
    go_enter Try.func32, Try.ntmps32
    go_wp2_with fail
    refine (pvalid_any _ _ _).mono ?_
    rintro e w1 ⟨rfl, hb⟩
    have B := thn (below_alloc1 w _) hb
    obtain ⟨c0, c1, c2, c3, f0, f1, f2, f3, l0⟩ := (cell4_new w _ _ _ _ _).next hb
    rw [h1]
    go_wp2_with (first | (go_at_call 33; refine (sfrom_any _ _ _ _).mono ?_; rintro e w' ⟨rfl, rfl⟩))
    go_ret
    exact ⟨ret_b b.out.symm, B⟩
  · have b := Lib.hid (show bv x y r s = _ by simp only [bv, h1, h2, h3]; rfl)
    go_enter Try.func32, Try.ntmps32
    go_wp2_with fail
    refine (pvalid_any _ _ _).mono ?_
    rintro e w1 ⟨rfl, hb⟩
    have B := thn (below_alloc1 w _) hb
    obtain ⟨c0, c1, c2, c3, f0, f1, f2, f3, l0⟩ := (cell4_new w _ _ _ _ _).next hb
    rw [h1]
    go_wp2_with (first | (go_at_call 33; refine (sfrom_any _ _ _ _).mono ?_; rintro e w' ⟨rfl, rfl⟩))
    go_ret
    exact ⟨ret_b b.out.symm, B⟩
  · have b := Lib.hid (show bv x y r s = _ by simp only [bv, h1, h2, h3]; rfl)
    go_enter Try.func32, Try.ntmps32
    go_wp2_with fail
    refine (pvalid_any _ _ _).mono ?_
    rintro e w1 ⟨rfl, hb⟩
    have B := thn (below_alloc1 w _) hb
    obtain ⟨c0, c1, c2, c3, f0, f1, f2, f3, l0⟩ := (cell4_new w _ _ _ _ _).next hb
    rw [h1]
    go_wp2_with (first | (go_at_call 33; refine (sfrom_any _ _ _ _).mono ?_; rintro e w' ⟨rfl, rfl⟩))
    go_ret
    exact ⟨ret_b b.out.symm, B⟩
theorem rvalid_any (x y r s : Int) (w : World) :
    Calls Try.prog 15 #[boxV x y r s] w fun e w' => e = .returned (.bool (bv x y r s)) ∧ Below w.heap.size w w' := by
  have hc : (pv x y = false) ∨ (pv x y = true ∧ inb r 0 2000000 = false) ∨ (pv x y = true ∧ inb r 0 2000000 = true ∧ inb s 0 2000000 = false) ∨ (pv x y = true ∧ inb r 0 2000000 = true ∧ inb s 0 2000000 = true) := by
    cases pv x y <;> cases inb r 0 2000000 <;> cases inb s 0 2000000 <;> simp
  rcases hc with h1 | ⟨h1, h2⟩ | ⟨h1, h2, h3⟩ | ⟨h1, h2, h3⟩
  · have b := Lib.hid (show bv x y r s = _ by simp only [bv, h1]; rfl)
    go_enter Try.func15, Try.ntmps15
    go_wp2_with fail
    refine (rpvalid_any _ _ _).mono ?_
    rintro e w1 ⟨rfl, hb⟩
    have B := thn (below_alloc1 w _) hb
    obtain ⟨c0, c1, c2, c3, f0, f1, f2, f3, l0⟩ := (cell4_new w _ _ _ _ _).next hb
    rw [h1]
    go_wp2_with (first | (go_at_call 30; refine (rwithin_any _ _ _ _).mono ?_; rintro e w' ⟨rfl, rfl⟩))
    go_ret
    exact ⟨ret_b b.out.symm, B⟩
  · have b := Lib.hid (show bv x y r s = _ by simp only [bv, h1, h2]; rfl)
    go_enter Try.func15, Try.ntmps15
    go_wp2_with fail
    refine (rpvalid_any _ _ _).mono ?_
    rintro e w1 ⟨rfl, hb⟩
    have B := thn (below_alloc1 w _) hb
    obtain ⟨c0, c1, c2, c3, f0, f1, f2, f3, l0⟩ := (cell4_new w _ _ _ _ _).next hb
    rw [h1]
    go_wp2_with (first | (go_at_call 30; refine (rwithin_any _ _ _ _).mono ?_; rintro e w' ⟨rfl, rfl⟩))
    go_ret
    exact ⟨ret_b b.out.symm, B⟩
  · have b := Lib.hid (show bv x y r s = _ by simp only [bv, h1, h2, h3]; rfl)
    go_enter Try.func15, Try.ntmps15
    go_wp2_with fail
    refine (rpvalid_any _ _ _).mono ?_
    rintro e w1 ⟨rfl, hb⟩
    have B := thn (below_alloc1 w _) hb
    obtain ⟨c0, c1, c2, c3, f0, f1, f2, f3, l0⟩ := (cell4_new w _ _ _ _ _).next hb
    rw [h1]
    go_wp2_with (first | (go_at_call 30; refine (rwithin_any _ _ _ _).mono ?_; rintro e w' ⟨rfl, rfl⟩))
    go_ret
    exact ⟨ret_b b.out.symm, B⟩
  · have b := Lib.hid (show bv x y r s = _ by simp only [bv, h1, h2, h3]; rfl)
    go_enter Try.func15, Try.ntmps15
    go_wp2_with fail
    refine (rpvalid_any _ _ _).mono ?_
    rintro e w1 ⟨rfl, hb⟩
    have B := thn (below_alloc1 w _) hb
    obtain ⟨c0, c1, c2, c3, f0, f1, f2, f3, l0⟩ := (cell4_new w _ _ _ _ _).next hb
    rw [h1]
    go_wp2_with (first | (go_at_call 30; refine (rwithin_any _ _ _ _).mono ?_; rintro e w' ⟨rfl, rfl⟩))
    go_ret
    exact ⟨ret_b b.out.symm, B⟩
theorem sinside_any (x y r s p q : Int) (w : World) :
    Calls Try.prog 16 #[boxV x y r s, ptV p q] w fun e w' => e = .returned (.bool (ins x y r s p q)) ∧ Below w.heap.size w w' := by
  have hc : (bv x y r s = false) ∨ (bv x y r s = true ∧ inb p (x - r) (x + r) = false) ∨ (bv x y r s = true ∧ inb p (x - r) (x + r) = true ∧ inb q (y - s) (y + s) = false) ∨ (bv x y r s = true ∧ inb p (x - r) (x + r) = true ∧ inb q (y - s) (y + s) = true) := by
    cases bv x y r s <;> cases inb p (x - r) (x + r) <;> cases inb q (y - s) (y + s) <;> simp
  rcases hc with h1 | ⟨h1, h2⟩ | ⟨h1, h2, h3⟩ | ⟨h1, h2, h3⟩
  · have b := Lib.hid (show ins x y r s p q = _ by simp only [ins, h1]; rfl)
    go_enter Try.func16, Try.ntmps16
    go_wp2_with fail
    refine (svalid_any _ _ _ _ _).mono ?_
    rintro e w1 ⟨rfl, hb⟩
    have B := thn (below_alloc2 w _ _) hb
    obtain ⟨c0, c1, c2, c3, f0, f1, f2, f3, l0⟩ := ((cell4_new w _ _ _ _ _).alc _).next hb
    obtain ⟨k0, k1, g0, g1, l1⟩ := (cellp_new _ _ _ _).next hb
    simp only [World.alloc, Array.size_push] at k0 k1 g0 g1 l1
    rw [h1]
    go_wp2_with (first | (go_at_call 33; refine (sfrom_any _ _ _ _).mono ?_; rintro e w' ⟨rfl, rfl⟩))
    go_ret
    exact ⟨ret_b b.out.symm, B⟩
  · have b := Lib.hid (show ins x y r s p q = _ by simp only [ins, h1, h2]; rfl)
    obtain ⟨⟨m0, m1⟩, ⟨m2, m3⟩, ⟨m4, m5⟩, m6, m7⟩ := bv_of h1
    go_enter Try.func16, Try.ntmps16
    go_wp2_with fail
    refine (svalid_any _ _ _ _ _).mono ?_
    rintro e w1 ⟨rfl, hb⟩
    have B := thn (below_alloc2 w _ _) hb
    obtain ⟨c0, c1, c2, c3, f0, f1, f2, f3, l0⟩ := ((cell4_new w _ _ _ _ _).alc _).next hb
    obtain ⟨k0, k1, g0, g1, l1⟩ := (cellp_new _ _ _ _).next hb
    simp only [World.alloc, Array.size_push] at k0 k1 g0 g1 l1
    rw [h1]
    go_wp2_with (first | (go_at_call 33; refine (sfrom_any _ _ _ _).mono ?_; rintro e w' ⟨rfl, rfl⟩))
    go_ret
    exact ⟨ret_b b.out.symm, B⟩
  · have b := Lib.hid (show ins x y r s p q = _ by simp only [ins, h1, h2, h3]; rfl)
    obtain ⟨⟨m0, m1⟩, ⟨m2, m3⟩, ⟨m4, m5⟩, m6, m7⟩ := bv_of h1
    go_enter Try.func16, Try.ntmps16
    go_wp2_with fail
    refine (svalid_any _ _ _ _ _).mono ?_
    rintro e w1 ⟨rfl, hb⟩
    have B := thn (below_alloc2 w _ _) hb
    obtain ⟨c0, c1, c2, c3, f0, f1, f2, f3, l0⟩ := ((cell4_new w _ _ _ _ _).alc _).next hb
    obtain ⟨k0, k1, g0, g1, l1⟩ := (cellp_new _ _ _ _).next hb
    simp only [World.alloc, Array.size_push] at k0 k1 g0 g1 l1
    rw [h1]
    go_wp2_with (first | (go_at_call 33; refine (sfrom_any _ _ _ _).mono ?_; rintro e w' ⟨rfl, rfl⟩))
    go_ret
    exact ⟨ret_b b.out.symm, B⟩
  · have b := Lib.hid (show ins x y r s p q = _ by simp only [ins, h1, h2, h3]; rfl)
    obtain ⟨⟨m0, m1⟩, ⟨m2, m3⟩, ⟨m4, m5⟩, m6, m7⟩ := bv_of h1
    go_enter Try.func16, Try.ntmps16
    go_wp2_with fail
    refine (svalid_any _ _ _ _ _).mono ?_
    rintro e w1 ⟨rfl, hb⟩
    have B := thn (below_alloc2 w _ _) hb
    obtain ⟨c0, c1, c2, c3, f0, f1, f2, f3, l0⟩ := ((cell4_new w _ _ _ _ _).alc _).next hb
    obtain ⟨k0, k1, g0, g1, l1⟩ := (cellp_new _ _ _ _).next hb
    simp only [World.alloc, Array.size_push] at k0 k1 g0 g1 l1
    rw [h1]
    go_wp2_with (first | (go_at_call 33; refine (sfrom_any _ _ _ _).mono ?_; rintro e w' ⟨rfl, rfl⟩))
    go_ret
    exact ⟨ret_b b.out.symm, B⟩
theorem ivalid_any (x y r s : Int) (w : World) :
    Calls Try.prog 14 #[boxV x y r s] w fun e w' => e = .returned (.bool (bv x y r s)) ∧ Below w.heap.size w w' := by
  have b := Lib.hid (ins_mid x y r s)
  go_enter Try.func14, Try.ntmps14
  go_wp2_with fail
  refine (sinside_any _ _ _ _ _ _ _).mono ?_
  rintro e w1 ⟨rfl, hb⟩
  have B := thn (below_alloc1 w _) hb
  rw [b.out]
  go_wp2
  go_ret
  exact ⟨rfl, B⟩

end Go.Proofs.Ytfeoladkpgojpaa
