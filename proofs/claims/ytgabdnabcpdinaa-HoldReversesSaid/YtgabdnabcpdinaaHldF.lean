/- The reference's ray, the side's quarter, and the closure that moves a point. -/
import Derived.Test.YtgabdnabcpdinaaHldE
namespace Go.Proofs.Ytgabdnabcpdinaa
open Go.RowKit Go.Joins Fdk
set_option linter.unusedVariables false
theorem rayv_b (a b c d : Int) : (-2000000 ≤ (rayv a b c d).1 ∧ (rayv a b c d).1 ≤ 2000000) ∧ (-2000000 ≤ (rayv a b c d).2.1 ∧ (rayv a b c d).2.1 ≤ 2000000) := by
  unfold rayv
  split
  · split
    · exact ⟨by decide, by decide⟩
    · split
      · next h => have := pvd_of h; exact this
      · exact ⟨by decide, by decide⟩
  · exact ⟨by decide, by decide⟩
/-- all blocks but one are as they were, and the new ones. -/
structure Bex (bk : Nat) (w w' : World) : Prop where
  os : w'.os = w.os
  tape : w'.tape = w.tape
  output : w'.output = w.output
  size : w.heap.size ≤ w'.heap.size
  block : ∀ k, k < w.heap.size → k ≠ bk → w'.heap[k]? = w.heap[k]?
theorem bex_put {bk : Nat} {w v : World} (h : Below w.heap.size w v) (p : Addr) (hp : p.block = bk) (x : Value) : Bex bk w (v.setCell p x) :=
  ⟨h.os, h.tape, h.output, by have := h.size; simpa using this, fun k hk hb => (Below.heap_setCell v p x k (by rw [hp]; exact hb)).trans (h.block k hk)⟩
theorem Bex.set {bk : Nat} {w v : World} (h : Bex bk w v) {p : Addr} (hp : w.heap.size ≤ p.block) (x : Value) : Bex bk w (v.setCell p x) :=
  ⟨h.os, h.tape, h.output, by have := h.size; simpa using this, fun k hk hb => (Below.heap_setCell v p x k (by omega)).trans (h.block k hk hb)⟩
theorem Bex.below {bk : Nat} {W w v : World} (k : Below W.heap.size W w) (h : Bex bk w v) (hb : W.heap.size ≤ bk) : Below W.heap.size W v :=
  ⟨h.os.trans k.os, h.tape.trans k.tape, h.output.trans k.output, Nat.le_trans k.size h.size, fun j hj => (h.block j (Nat.lt_of_lt_of_le hj k.size) (by omega)).trans (k.block j hj)⟩
theorem C2.bex {bk b : Nat} {w v : World} {x y : Value} (k : C2 w b x y) (h : Bex bk w v) (hb : b ≠ bk) : C2 v b x y :=
  have e := h.block b k.lt hb
  ⟨(World.cell?_of_block (w := w) e).trans k.c0, (World.cell?_of_block (w := w) e).trans k.c1, (World.frozen?_of_block (w := w) e).trans k.f0, (World.frozen?_of_block (w := w) e).trans k.f1, Nat.lt_of_lt_of_le k.lt h.size⟩
theorem C14.bex {bk b : Nat} {w v : World} {x0 x1 x2 x3 x4 x5 x6 x7 x8 x9 x10 x11 x12 x13 : Value} (k : C14 w b x0 x1 x2 x3 x4 x5 x6 x7 x8 x9 x10 x11 x12 x13) (h : Bex bk w v) (hb : b ≠ bk) : C14 v b x0 x1 x2 x3 x4 x5 x6 x7 x8 x9 x10 x11 x12 x13 :=
  have e := h.block b k.lt hb
  ⟨(World.cell?_of_block (w := w) e).trans k.c0, (World.cell?_of_block (w := w) e).trans k.c1, (World.cell?_of_block (w := w) e).trans k.c2, (World.cell?_of_block (w := w) e).trans k.c3, (World.cell?_of_block (w := w) e).trans k.c4, (World.cell?_of_block (w := w) e).trans k.c5, (World.cell?_of_block (w := w) e).trans k.c6, (World.cell?_of_block (w := w) e).trans k.c7, (World.cell?_of_block (w := w) e).trans k.c8, (World.cell?_of_block (w := w) e).trans k.c9, (World.cell?_of_block (w := w) e).trans k.c10, (World.cell?_of_block (w := w) e).trans k.c11, (World.cell?_of_block (w := w) e).trans k.c12, (World.cell?_of_block (w := w) e).trans k.c13, (World.frozen?_of_block (w := w) e).trans k.f0, (World.frozen?_of_block (w := w) e).trans k.f1, (World.frozen?_of_block (w := w) e).trans k.f2, (World.frozen?_of_block (w := w) e).trans k.f3, (World.frozen?_of_block (w := w) e).trans k.f4, (World.frozen?_of_block (w := w) e).trans k.f5, (World.frozen?_of_block (w := w) e).trans k.f6, (World.frozen?_of_block (w := w) e).trans k.f7, (World.frozen?_of_block (w := w) e).trans k.f8, (World.frozen?_of_block (w := w) e).trans k.f9, (World.frozen?_of_block (w := w) e).trans k.f10, (World.frozen?_of_block (w := w) e).trans k.f11, (World.frozen?_of_block (w := w) e).trans k.f12, (World.frozen?_of_block (w := w) e).trans k.f13, Nat.lt_of_lt_of_le k.lt h.size⟩
set_option maxHeartbeats 8000000 in
theorem ray26_any (a b c d : Int) (bk : Nat) (ok : Bool) (w : World) (T : C1 w bk (.bool ok)) :
    Calls Try.prog 39 #[ptV a b, .int .i64 c, .int .i64 d, .pointer (some ⟨bk, 0, none⟩)] w fun e w' => e = .returned (ptV (rayv a b c d).1 (rayv a b c d).2.1) ∧ C1 w' bk (.bool (ok && (rayv a b c d).2.2 == 0)) ∧ Bex bk w w' := by
  have HR := Lib.hid (fun w => rray_any a b c d w)
  generalize rayv a b c d = R at *
  obtain ⟨X, Y, E⟩ := R
  have hbk := T.lt
  have HNZ := Lib.hid (show w.heap.size + 1 ≠ bk by omega)
  have HNQ := Lib.hid (show ∀ w1 : World, w.heap.size + 2 ≤ w1.heap.size → bk ≠ w1.heap.size by intro w1 h; omega)
  clear hbk
  go_enter Try.func39, Try.ntmps39
  go_wp2_with fail
  refine (HR.out _).mono ?_
  rintro e w1 ⟨rfl, hb⟩
  have B := alc (thn (below_alloc2 w _ _) hb) (.cells #[.int .i64 X, .int .i64 Y] 30)
  replace T := (((T.alc (.cells #[.int .i64 a, .int .i64 b] 30)).alc (.cells #[.int .i64 0, .int .i64 0] 30)).next hb).alc (.cells #[.int .i64 X, .int .i64 Y] 30)
  have Q := c2_new w1 (.int .i64 X) (.int .i64 Y) 30
  have Z := (c2_new (w.alloc (.cells #[.int .i64 a, .int .i64 b] 30)) (.int .i64 0) (.int .i64 0) 30).next hb
  simp only [World.alloc, Array.size_push] at Z
  have HS := Lib.hid (show w.heap.size + 2 ≤ w1.heap.size by have := hb.size; simp at this; omega)
  clear hb
  have hbz : w.heap.size + 1 ≠ bk := HNZ.out
  have hbq : bk ≠ w1.heap.size := HNQ.out w1 HS.out
  have hbq' : w1.heap.size ≠ bk := fun h => hbq h.symm
  replace Z := Z.alc (.cells #[.int .i64 X, .int .i64 Y] 30)
  clear HS
  obtain ⟨t0, t1, tl⟩ := id T
  obtain ⟨q0, q1, q2, q3, ql⟩ := id Q
  obtain ⟨z0, z1, z2, z3, zl⟩ := id Z
  cases ok
  · go_wp2_with fail
    have Z5 := (Z.else (p := ⟨bk, 0, none⟩) (fun h => hbz h.symm) (.bool false)).put (.int .i64 X) (.int .i64 Y)
    have T5 := ((T.put0 (.bool false)).else (p := ⟨w.heap.size + 1, 0, none⟩) hbz (.int .i64 X)).else (p := ⟨w.heap.size + 1, 1, none⟩) hbz (.int .i64 Y)
    have B5 := ((bex_put (bk := bk) B ⟨bk, 0, none⟩ rfl (.bool false)).set (p := ⟨w.heap.size + 1, 0, none⟩) (Nat.le_succ _) (.int .i64 X)).set (p := ⟨w.heap.size + 1, 1, none⟩) (Nat.le_succ _) (.int .i64 Y)
    obtain ⟨z0, z1, z2, z3, zl⟩ := Z5
    exact bodyPost_ret (v := ptV X Y) (by simp [results, Try.results39, go_sem, z0, z1]) rfl ⟨rfl, T5, B5⟩
  · go_wp2_with fail
    have Z5 := (Z.else (p := ⟨bk, 0, none⟩) (fun h => hbz h.symm) (.bool (E == 0))).put (.int .i64 X) (.int .i64 Y)
    have T5 := ((T.put0 (.bool (E == 0))).else (p := ⟨w.heap.size + 1, 0, none⟩) hbz (.int .i64 X)).else (p := ⟨w.heap.size + 1, 1, none⟩) hbz (.int .i64 Y)
    have B5 := ((bex_put (bk := bk) B ⟨bk, 0, none⟩ rfl (.bool (E == 0))).set (p := ⟨w.heap.size + 1, 0, none⟩) (Nat.le_succ _) (.int .i64 X)).set (p := ⟨w.heap.size + 1, 1, none⟩) (Nat.le_succ _) (.int .i64 Y)
    obtain ⟨z0, z1, z2, z3, zl⟩ := Z5
    exact bodyPost_ret (v := ptV X Y) (by simp [results, Try.results39, go_sem, z0, z1]) rfl ⟨rfl, T5, B5⟩
set_option maxHeartbeats 4000000 in
theorem quarter_h (k : Int) (w : World) :
    Calls Try.prog 34 #[.int .u8 k] w fun e w' => e = .returned (.int .i64 (if k = 2 then 32400000 else -32400000)) ∧ w = w' := by
  by_cases h : k = 2
  · have HI := Lib.hid (if_pos h : (if k = 2 then (32400000 : Int) else -32400000) = 32400000)
    subst h
    go_enter Try.func34, Try.ntmps34
    go_wp2
    go_ret
    exact ⟨by first | rfl | (rw [HI.out]; rfl), rfl⟩
  · have HI := Lib.hid (if_neg h : (if k = 2 then (32400000 : Int) else -32400000) = -32400000)
    have hk : (k == 2) = false := by simp [h]
    go_enter Try.func34, Try.ntmps34
    go_wp2
    go_ret
    exact ⟨by first | rfl | (rw [HI.out]; rfl), rfl⟩
set_option maxHeartbeats 8000000 in
theorem move_any (p q : Int) (bs bf : Nat) (w : World) (x0 x1 x2 x3 x4 x5 x6 x7 x8 x9 x10 x11 x12 x13 x14 : Int) (a b : Int) (S : C15 w bs (.int .i64 x0) (.int .i64 x1) (.int .i64 x2) (.int .i64 x3) (.int .i64 x4) (.int .i64 x5) (.int .i64 x6) (.int .i64 x7) (.int .i64 x8) (.int .i64 x9) (.int .i64 x10) (.int .i64 x11) (.int .i64 x12) (.int .i64 x13) (.int .i64 x14)) (F : C2 w bf (.int .i64 a) (.int .i64 b))
    (hp : -2000000 ≤ p ∧ p ≤ 2000000) (hq : -2000000 ≤ q ∧ q ≤ 2000000) (h6 : -2000000 ≤ x6 ∧ x6 ≤ 2000000) (h7 : -2000000 ≤ x7 ∧ x7 ≤ 2000000) (ha : -2000000 ≤ a ∧ a ≤ 2000000) (hb : -2000000 ≤ b ∧ b ≤ 2000000) :
    Calls Try.prog 41 #[ptV p q, .pointer (some ⟨bs, 0, none⟩), .pointer (some ⟨bf, 0, none⟩)] w fun e w' => e = .returned (ptV (p + x6 - a) (q + x7 - b)) ∧ Below w.heap.size w w' := by
  have e0 : IntKind.i64.wrap (p + x6) = p + x6 := IntWalk.i64_in _ (by omega)
  have e1 : IntKind.i64.wrap (p + x6 - a) = p + x6 - a := IntWalk.i64_in _ (by omega)
  have e2 : IntKind.i64.wrap (q + x7) = q + x7 := IntWalk.i64_in _ (by omega)
  have e3 : IntKind.i64.wrap (q + x7 - b) = q + x7 - b := IntWalk.i64_in _ (by omega)
  have s6 := ((S.alc (.cells #[.int .i64 p, .int .i64 q] 30)).alc (.cells #[.int .i64 0, .int .i64 0] 30)).c6
  have s7 := ((S.alc (.cells #[.int .i64 p, .int .i64 q] 30)).alc (.cells #[.int .i64 0, .int .i64 0] 30)).c7
  have f0 := ((F.alc (.cells #[.int .i64 p, .int .i64 q] 30)).alc (.cells #[.int .i64 0, .int .i64 0] 30)).c0
  have f1 := ((F.alc (.cells #[.int .i64 p, .int .i64 q] 30)).alc (.cells #[.int .i64 0, .int .i64 0] 30)).c1
  have Z := c2_new (w.alloc (.cells #[.int .i64 p, .int .i64 q] 30)) (.int .i64 (p + x6 - a)) (.int .i64 (q + x7 - b)) 30
  rw [show (w.alloc (.cells #[.int .i64 p, .int .i64 q] 30)).heap.size = w.heap.size + 1 by simp] at Z
  have B := below_alloc2 w (.cells #[.int .i64 p, .int .i64 q] 30) (.cells #[.int .i64 (p + x6 - a), .int .i64 (q + x7 - b)] 30)
  clear S F
  go_enter Try.func41, Try.ntmps41
  go_wp2_with fail
  obtain ⟨z0, z1, z2, z3, zl⟩ := Z
  exact bodyPost_ret (v := ptV (p + x6 - a) (q + x7 - b)) (by simp [results, Try.results41, go_sem, z0, z1]) rfl ⟨rfl, B⟩
end Go.Proofs.Ytgabdnabcpdinaa
