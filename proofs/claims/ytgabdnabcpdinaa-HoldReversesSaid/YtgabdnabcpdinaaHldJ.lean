/- The points of a pattern: hold.layout, in range. -/
import Derived.Test.YtgabdnabcpdinaaHldH
import Derived.Test.YtgabdnabcpdinaaHldI
namespace Go.Proofs.Ytgabdnabcpdinaa
open Go.RowKit Go.Joins Fdk
set_option linter.unusedVariables false
def lhv (a b u i l r s : Int) : Value := if hsg a b u i l r = true then shpH a b (rayv a b u (2 * r)).1 (rayv a b u (2 * r)).2.1 ((rayv a b u (2 * r)).1 + ((rayv a b (i + 64800000) l).1 - a)) ((rayv a b u (2 * r)).2.1 + ((rayv a b (i + 64800000) l).2.1 - b)) (rayv a b (i + 64800000) l).1 (rayv a b (i + 64800000) l).2.1 (rayv a b u r).1 (rayv a b u r).2.1 ((rayv a b u r).1 + ((rayv a b (i + 64800000) l).1 - a)) ((rayv a b u r).2.1 + ((rayv a b (i + 64800000) l).2.1 - b)) u r s else shpH 0 0 0 0 0 0 0 0 0 0 0 0 0 0 0
theorem lh_no {a b u i l r s : Int} (h : hsg a b u i l r = false) : lhv a b u i l r s = shpH 0 0 0 0 0 0 0 0 0 0 0 0 0 0 0 ∧ hse a b u i l r = 2 := by
  unfold lhv hse; rw [h]; exact ⟨rfl, rfl⟩
theorem lh_ok {a b u i l r s x0 y0 E0 x1 y1 E1 x2 y2 E2 : Int} (h0 : (x0, y0, E0) = rayv a b u r) (h1 : (x1, y1, E1) = rayv a b u (2 * r)) (h2 : (x2, y2, E2) = rayv a b (i + 64800000) l) (h : hsg a b u i l r = true) : lhv a b u i l r s = shpH a b x1 y1 (x1 + (x2 - a)) (y1 + (y2 - b)) x2 y2 x0 y0 (x0 + (x2 - a)) (y0 + (y2 - b)) u r s ∧ hse a b u i l r = 0 := by
  unfold lhv hse; rw [h, ← h0, ← h1, ← h2]; exact ⟨rfl, rfl⟩
theorem move2_any (p q : Int) (bs bf : Nat) (w : World) (x0 x1 x2 x3 x4 x5 x6 x7 x8 x9 x10 x11 x12 x13 x14 : Int) (a b : Int) (S : C15 w bs (.int .i64 x0) (.int .i64 x1) (.int .i64 x2) (.int .i64 x3) (.int .i64 x4) (.int .i64 x5) (.int .i64 x6) (.int .i64 x7) (.int .i64 x8) (.int .i64 x9) (.int .i64 x10) (.int .i64 x11) (.int .i64 x12) (.int .i64 x13) (.int .i64 x14)) (F : C2 w bf (.int .i64 a) (.int .i64 b))
    (hp : -2000000 ≤ p ∧ p ≤ 2000000) (hq : -2000000 ≤ q ∧ q ≤ 2000000) (h6 : -2000000 ≤ x6 ∧ x6 ≤ 2000000) (h7 : -2000000 ≤ x7 ∧ x7 ≤ 2000000) (ha : -2000000 ≤ a ∧ a ≤ 2000000) (hb : -2000000 ≤ b ∧ b ≤ 2000000) :
    Calls Try.prog 41 #[ptV p q, .pointer (some ⟨bs, 0, none⟩), .pointer (some ⟨bf, 0, none⟩)] w fun e w' => e = .returned (ptV (p + (x6 - a)) (q + (x7 - b))) ∧ Below w.heap.size w w' := by
  have h := move_any p q bs bf w x0 x1 x2 x3 x4 x5 x6 x7 x8 x9 x10 x11 x12 x13 x14 a b S F hp hq h6 h7 ha hb
  rw [Int.add_sub_assoc, Int.add_sub_assoc] at h
  exact h
set_option maxRecDepth 8000 in
set_option maxHeartbeats 16000000 in
theorem lay_t1 (a b i l r : Int) (w : World) (h : pvd a b = true) (hr : rng i l r = true) :
    Calls Try.prog 23 #[ptV a b, .int .i64 i, .int .u8 1, .int .i64 l, .int .i64 r] w fun e w' => e = .returned (.tuple #[lhv a b (i - 32400000) i l r (-64800000), .int .i64 (hse a b (i - 32400000) i l r)]) ∧ Below w.heap.size w w' := by
  obtain ⟨⟨i0, i1⟩, ⟨l0, l1⟩, r0, r1⟩ := rng_of hr
  have HV := Lib.hid h
  clear h hr
  have e0 : IntKind.i64.wrap (i + 32400000) = i + 32400000 := IntWalk.i64_in _ (by omega)
  have e1 : IntKind.i64.wrap (i + -32400000) = i - 32400000 := IntWalk.i64_in _ (by omega)
  have e2 : IntKind.i64.wrap (i + 64800000) = i + 64800000 := IntWalk.i64_in _ (by omega)
  have e3 : IntKind.i64.wrap (2 * r) = 2 * r := IntWalk.i64_in _ (by omega)
  have g0 : ¬ i < 0 := by omega
  have g1 : ¬ i ≥ 129600000 := by omega
  have g2 : ¬ l < 1 := by omega
  have g3 : ¬ l > 2000000 := by omega
  have g4 : ¬ r < 1 := by omega
  have g5 : ¬ r > 2000000 := by omega
  have HQT := Lib.hid (fun w => quarter_h 1 w)
  clear i0 i1 l0 l1 r0 r1
  go_enter Try.func23, Try.ntmps23
  go_wp2_with fail
  have B := below_alloc2 w (.cells #[.int .i64 a, .int .i64 b] 30) (.cells #[.int .i64 0, .int .i64 0, .int .i64 0, .int .i64 0, .int .i64 0, .int .i64 0, .int .i64 0, .int .i64 0, .int .i64 0, .int .i64 0, .int .i64 0, .int .i64 0, .int .i64 0, .int .i64 0, .int .i64 0] 50)
  have T := (c2_new w (.int .i64 a) (.int .i64 b) 30).alc (.cells #[.int .i64 0, .int .i64 0, .int .i64 0, .int .i64 0, .int .i64 0, .int .i64 0, .int .i64 0, .int .i64 0, .int .i64 0, .int .i64 0, .int .i64 0, .int .i64 0, .int .i64 0, .int .i64 0, .int .i64 0] 50)
  have Z := c15_new (w.alloc (.cells #[.int .i64 a, .int .i64 b] 30)) (.int .i64 0) (.int .i64 0) (.int .i64 0) (.int .i64 0) (.int .i64 0) (.int .i64 0) (.int .i64 0) (.int .i64 0) (.int .i64 0) (.int .i64 0) (.int .i64 0) (.int .i64 0) (.int .i64 0) (.int .i64 0) (.int .i64 0) 50
  rw [show (w.alloc (.cells #[.int .i64 a, .int .i64 b] 30)).heap.size = w.heap.size + 1 by simp] at Z
  generalize (w.alloc (.cells #[.int .i64 a, .int .i64 b] 30)).alloc (.cells #[.int .i64 0, .int .i64 0, .int .i64 0, .int .i64 0, .int .i64 0, .int .i64 0, .int .i64 0, .int .i64 0, .int .i64 0, .int .i64 0, .int .i64 0, .int .i64 0, .int .i64 0, .int .i64 0, .int .i64 0] 50) = w0 at *
  refine (pvalid_any _ _ _).mono ?_
  rintro e w1 ⟨rfl, hb⟩
  rw [HV.out]
  replace B := thn B hb
  replace T := T.next hb
  replace Z := Z.next hb
  clear hb
  obtain ⟨t0, t1, t2, t3, tl⟩ := id T
  go_wp2_with (first | (go_at_call 34; refine (HQT.out _).mono ?_; rintro e w' ⟨rfl, rfl⟩))
  clear t0 t1 t2 t3 tl
  have hle : w.heap.size + 2 ≤ w1.heap.size := by have := Z.lt; omega
  have S := c15_new w1 (.int .i64 a) (.int .i64 b) (.int .i64 0) (.int .i64 0) (.int .i64 0) (.int .i64 0) (.int .i64 0) (.int .i64 0) (.int .i64 0) (.int .i64 0) (.int .i64 0) (.int .i64 0) (.int .i64 (i - 32400000)) (.int .i64 r) (.int .i64 (-64800000)) 50
  replace B := alc B (.cells #[.int .i64 a, .int .i64 b, .int .i64 0, .int .i64 0, .int .i64 0, .int .i64 0, .int .i64 0, .int .i64 0, .int .i64 0, .int .i64 0, .int .i64 0, .int .i64 0, .int .i64 (i - 32400000), .int .i64 r, .int .i64 (-64800000)] 50)
  replace T := T.alc (.cells #[.int .i64 a, .int .i64 b, .int .i64 0, .int .i64 0, .int .i64 0, .int .i64 0, .int .i64 0, .int .i64 0, .int .i64 0, .int .i64 0, .int .i64 0, .int .i64 0, .int .i64 (i - 32400000), .int .i64 r, .int .i64 (-64800000)] 50)
  replace Z := Z.alc (.cells #[.int .i64 a, .int .i64 b, .int .i64 0, .int .i64 0, .int .i64 0, .int .i64 0, .int .i64 0, .int .i64 0, .int .i64 0, .int .i64 0, .int .i64 0, .int .i64 0, .int .i64 (i - 32400000), .int .i64 r, .int .i64 (-64800000)] 50)
  generalize w1.alloc (.cells #[.int .i64 a, .int .i64 b, .int .i64 0, .int .i64 0, .int .i64 0, .int .i64 0, .int .i64 0, .int .i64 0, .int .i64 0, .int .i64 0, .int .i64 0, .int .i64 0, .int .i64 (i - 32400000), .int .i64 r, .int .i64 (-64800000)] 50) = v0 at *
  generalize w1.heap.size = bs at *
  have hlb : w.heap.size ≤ bs := by omega
  have hnt : bs ≠ w.heap.size := by omega
  have hnz : bs ≠ w.heap.size + 1 := by omega
  have HR0 := Lib.hid (fun w => ray_any a b (i - 32400000) r w)
  obtain ⟨X0, hX0⟩ : ∃ X, X = rayv a b (i - 32400000) r := ⟨_, rfl⟩
  have bX0 := rayv_b a b (i - 32400000) r
  rw [← hX0] at HR0 bX0
  obtain ⟨x0, y0, E0⟩ := X0
  have HX0 := Lib.hid hX0
  clear hX0
  refine (HR0.out _).mono ?_
  rintro e w2 ⟨rfl, hb⟩
  clear HR0
  replace B := thn B hb
  replace T := T.next hb
  replace Z := Z.next hb
  replace S := S.next hb
  clear hb
  obtain ⟨t0, t1, t2, t3, tl⟩ := id T
  obtain ⟨s0, s1, s2, s3, s4, s5, s6, s7, s8, s9, s10, s11, s12, s13, s14, f0, f1, f2, f3, f4, f5, f6, f7, f8, f9, f10, f11, f12, f13, f14, sl⟩ := id S
  go_wp2_with fail
  clear t0 t1 t2 t3 tl s0 s1 s2 s3 s4 s5 s6 s7 s8 s9 s10 s11 s12 s13 s14 f0 f1 f2 f3 f4 f5 f6 f7 f8 f9 f10 f11 f12 f13 f14 sl
  replace B := (B.setCell (p := ⟨bs, 8, none⟩) hlb (.int .i64 x0)).setCell (p := ⟨bs, 9, none⟩) hlb (.int .i64 y0)
  replace T := (T.else (p := ⟨bs, 8, none⟩) hnt (.int .i64 x0)).else (p := ⟨bs, 9, none⟩) hnt (.int .i64 y0)
  replace Z := (Z.else (p := ⟨bs, 8, none⟩) hnz (.int .i64 x0)).else (p := ⟨bs, 9, none⟩) hnz (.int .i64 y0)
  replace S := (S.put8 (.int .i64 x0)).put9 (.int .i64 y0)
  generalize (w2.setCell ⟨bs, 8, none⟩ (.int .i64 x0)).setCell ⟨bs, 9, none⟩ (.int .i64 y0) = v1 at *
  have HR1 := Lib.hid (fun w => ray_any a b (i - 32400000) (2 * r) w)
  obtain ⟨X1, hX1⟩ : ∃ X, X = rayv a b (i - 32400000) (2 * r) := ⟨_, rfl⟩
  have bX1 := rayv_b a b (i - 32400000) (2 * r)
  rw [← hX1] at HR1 bX1
  obtain ⟨x1, y1, E1⟩ := X1
  have HX1 := Lib.hid hX1
  clear hX1
  refine (HR1.out _).mono ?_
  rintro e w2 ⟨rfl, hb⟩
  clear HR1
  replace B := thn B hb
  replace T := T.next hb
  replace Z := Z.next hb
  replace S := S.next hb
  clear hb
  obtain ⟨t0, t1, t2, t3, tl⟩ := id T
  obtain ⟨s0, s1, s2, s3, s4, s5, s6, s7, s8, s9, s10, s11, s12, s13, s14, f0, f1, f2, f3, f4, f5, f6, f7, f8, f9, f10, f11, f12, f13, f14, sl⟩ := id S
  go_wp2_with fail
  clear t0 t1 t2 t3 tl s0 s1 s2 s3 s4 s5 s6 s7 s8 s9 s10 s11 s12 s13 s14 f0 f1 f2 f3 f4 f5 f6 f7 f8 f9 f10 f11 f12 f13 f14 sl
  replace B := (B.setCell (p := ⟨bs, 2, none⟩) hlb (.int .i64 x1)).setCell (p := ⟨bs, 3, none⟩) hlb (.int .i64 y1)
  replace T := (T.else (p := ⟨bs, 2, none⟩) hnt (.int .i64 x1)).else (p := ⟨bs, 3, none⟩) hnt (.int .i64 y1)
  replace Z := (Z.else (p := ⟨bs, 2, none⟩) hnz (.int .i64 x1)).else (p := ⟨bs, 3, none⟩) hnz (.int .i64 y1)
  replace S := (S.put2 (.int .i64 x1)).put3 (.int .i64 y1)
  generalize (w2.setCell ⟨bs, 2, none⟩ (.int .i64 x1)).setCell ⟨bs, 3, none⟩ (.int .i64 y1) = v2 at *
  have HR2 := Lib.hid (fun w => ray_any a b (i + 64800000) l w)
  obtain ⟨X2, hX2⟩ : ∃ X, X = rayv a b (i + 64800000) l := ⟨_, rfl⟩
  have bX2 := rayv_b a b (i + 64800000) l
  rw [← hX2] at HR2 bX2
  obtain ⟨x2, y2, E2⟩ := X2
  have HX2 := Lib.hid hX2
  clear hX2
  refine (HR2.out _).mono ?_
  rintro e w2 ⟨rfl, hb⟩
  clear HR2
  replace B := thn B hb
  replace T := T.next hb
  replace Z := Z.next hb
  replace S := S.next hb
  clear hb
  obtain ⟨t0, t1, t2, t3, tl⟩ := id T
  obtain ⟨s0, s1, s2, s3, s4, s5, s6, s7, s8, s9, s10, s11, s12, s13, s14, f0, f1, f2, f3, f4, f5, f6, f7, f8, f9, f10, f11, f12, f13, f14, sl⟩ := id S
  go_wp2_with fail
  clear t0 t1 t2 t3 tl s0 s1 s2 s3 s4 s5 s6 s7 s8 s9 s10 s11 s12 s13 s14 f0 f1 f2 f3 f4 f5 f6 f7 f8 f9 f10 f11 f12 f13 f14 sl
  replace B := (B.setCell (p := ⟨bs, 6, none⟩) hlb (.int .i64 x2)).setCell (p := ⟨bs, 7, none⟩) hlb (.int .i64 y2)
  replace T := (T.else (p := ⟨bs, 6, none⟩) hnt (.int .i64 x2)).else (p := ⟨bs, 7, none⟩) hnt (.int .i64 y2)
  replace Z := (Z.else (p := ⟨bs, 6, none⟩) hnz (.int .i64 x2)).else (p := ⟨bs, 7, none⟩) hnz (.int .i64 y2)
  replace S := (S.put6 (.int .i64 x2)).put7 (.int .i64 y2)
  generalize (w2.setCell ⟨bs, 6, none⟩ (.int .i64 x2)).setCell ⟨bs, 7, none⟩ (.int .i64 y2) = v3 at *
  have HMp := Lib.hid (fun w' SS FF => move2_any x1 y1 bs w.heap.size w' a b x1 y1 0 0 x2 y2 x0 y0 0 0 (i - 32400000) r (-64800000) a b SS FF bX1.1 bX1.2 bX2.1 bX2.2 (pvd_of HV.out).1 (pvd_of HV.out).2)
  have HMc := Lib.hid (fun w' SS FF => move2_any x0 y0 bs w.heap.size w' a b x1 y1 0 0 x2 y2 x0 y0 0 0 (i - 32400000) r (-64800000) a b SS FF bX0.1 bX0.2 bX2.1 bX2.2 (pvd_of HV.out).1 (pvd_of HV.out).2)
  go_cut [] (fun wx => C15 wx bs (.int .i64 a) (.int .i64 b) (.int .i64 x1) (.int .i64 y1) (.int .i64 (x1 + (x2 - a))) (.int .i64 (y1 + (y2 - b))) (.int .i64 x2) (.int .i64 y2) (.int .i64 x0) (.int .i64 y0) (.int .i64 (x0 + (x2 - a))) (.int .i64 (y0 + (y2 - b))) (.int .i64 (i - 32400000)) (.int .i64 r) (.int .i64 (-64800000)) ∧ C2 wx w.heap.size (.int .i64 a) (.int .i64 b) ∧ C15 wx (w.heap.size + 1) (.int .i64 0) (.int .i64 0) (.int .i64 0) (.int .i64 0) (.int .i64 0) (.int .i64 0) (.int .i64 0) (.int .i64 0) (.int .i64 0) (.int .i64 0) (.int .i64 0) (.int .i64 0) (.int .i64 0) (.int .i64 0) (.int .i64 0) ∧ Below w.heap.size w wx)
  case first =>
    have l2 := S.c2
    have l3 := S.c3
    have l8 := S.c8
    have l9 := S.c9
    go_region_held3 (fun w' => w'.cell? ⟨bs, 2, none⟩ = some (.int .i64 x1) ∧ w'.cell? ⟨bs, 3, none⟩ = some (.int .i64 y1) ∧ w'.cell? ⟨bs, 8, none⟩ = some (.int .i64 x0) ∧ w'.cell? ⟨bs, 9, none⟩ = some (.int .i64 y0)) (first | with_reducible exact ⟨(S.drew).c2, (S.drew).c3, (S.drew).c8, (S.drew).c9⟩ | with_reducible exact ⟨(S4).c2, (S4).c3, (S4).c8, (S4).c9⟩ | with_reducible exact ⟨(S5).c2, (S5).c3, (S5).c8, (S5).c9⟩ | with_reducible exact ⟨((S5.put4 _).put5 _).c2, ((S5.put4 _).put5 _).c3, ((S5.put4 _).put5 _).c8, ((S5.put4 _).put5 _).c9⟩ | with_reducible exact ⟨((S5.put10 _).put11 _).c2, ((S5.put10 _).put11 _).c3, ((S5.put10 _).put11 _).c8, ((S5.put10 _).put11 _).c9⟩ | with_reducible exact ⟨((((S5.put4 _).put5 _).put10 _).put11 _).c2, ((((S5.put4 _).put5 _).put10 _).put11 _).c3, ((((S5.put4 _).put5 _).put10 _).put11 _).c8, ((((S5.put4 _).put5 _).put10 _).put11 _).c9⟩ | with_reducible exact ⟨((((S5.put10 _).put11 _).put4 _).put5 _).c2, ((((S5.put10 _).put11 _).put4 _).put5 _).c3, ((((S5.put10 _).put11 _).put4 _).put5 _).c8, ((((S5.put10 _).put11 _).put4 _).put5 _).c9⟩)
      (first | (go_at_call 41; with_reducible refine (HMp.out _ S.drew T.drew).mono ?_; rintro e w4 ⟨rfl, hb4⟩; have S4 := S.drew.next hb4; have T4 := T.drew.next hb4; have Z4 := Z.drew.next hb4; have B4 := thn (thn B (bdrew v3)) hb4) | (go_at_call 41; with_reducible refine (HMc.out _ S.drew T.drew).mono ?_; rintro e w4 ⟨rfl, hb4⟩; have S4 := S.drew.next hb4; have T4 := T.drew.next hb4; have Z4 := Z.drew.next hb4; have B4 := thn (thn B (bdrew v3)) hb4) | (go_at_call 41; with_reducible refine (HMp.out _ S4 T4).mono ?_; rintro e w5 ⟨rfl, hb5⟩; have S5 := S4.next hb5; have T5 := T4.next hb5; have Z5 := Z4.next hb5; have B5 := thn B4 hb5; have q4 := S5.c4; have q5 := S5.c5; have q10 := S5.c10; have q11 := S5.c11; have r4 := S5.f4; have r5 := S5.f5; have r10 := S5.f10; have r11 := S5.f11) | (go_at_call 41; with_reducible refine (HMc.out _ S4 T4).mono ?_; rintro e w5 ⟨rfl, hb5⟩; have S5 := S4.next hb5; have T5 := T4.next hb5; have Z5 := Z4.next hb5; have B5 := thn B4 hb5; have q4 := S5.c4; have q5 := S5.c5; have q10 := S5.c10; have q11 := S5.c11; have r4 := S5.f4; have r5 := S5.f5; have r10 := S5.f10; have r11 := S5.f11))
    clear l2 l3 l8 l9
    all_goals (go_wp2_with fail; go_meet)
    all_goals (first | with_reducible exact ⟨((((S5.put4 _).put5 _).put10 _).put11 _), ((((T5.else (p := ⟨bs, 4, none⟩) hnt _).else (p := ⟨bs, 5, none⟩) hnt _).else (p := ⟨bs, 10, none⟩) hnt _).else (p := ⟨bs, 11, none⟩) hnt _), ((((Z5.else (p := ⟨bs, 4, none⟩) hnz _).else (p := ⟨bs, 5, none⟩) hnz _).else (p := ⟨bs, 10, none⟩) hnz _).else (p := ⟨bs, 11, none⟩) hnz _), ((((B5.setCell (p := ⟨bs, 4, none⟩) hlb _).setCell (p := ⟨bs, 5, none⟩) hlb _).setCell (p := ⟨bs, 10, none⟩) hlb _).setCell (p := ⟨bs, 11, none⟩) hlb _)⟩ | with_reducible exact ⟨((((S5.put10 _).put11 _).put4 _).put5 _), ((((T5.else (p := ⟨bs, 10, none⟩) hnt _).else (p := ⟨bs, 11, none⟩) hnt _).else (p := ⟨bs, 4, none⟩) hnt _).else (p := ⟨bs, 5, none⟩) hnt _), ((((Z5.else (p := ⟨bs, 10, none⟩) hnz _).else (p := ⟨bs, 11, none⟩) hnz _).else (p := ⟨bs, 4, none⟩) hnz _).else (p := ⟨bs, 5, none⟩) hnz _), ((((B5.setCell (p := ⟨bs, 10, none⟩) hlb _).setCell (p := ⟨bs, 11, none⟩) hlb _).setCell (p := ⟨bs, 4, none⟩) hlb _).setCell (p := ⟨bs, 5, none⟩) hlb _)⟩)
  case rest =>
  obtain ⟨S, T, Z, B⟩ := hcut
  go_upto_region 13 with fail
  go_cut [131] (fun s131 wx => (∃ bv : Bool, s131 = .bool bv ∧ Hid (hsg a b (i - 32400000) i l r = !bv)) ∧ C15 wx bs (.int .i64 a) (.int .i64 b) (.int .i64 x1) (.int .i64 y1) (.int .i64 (x1 + (x2 - a))) (.int .i64 (y1 + (y2 - b))) (.int .i64 x2) (.int .i64 y2) (.int .i64 x0) (.int .i64 y0) (.int .i64 (x0 + (x2 - a))) (.int .i64 (y0 + (y2 - b))) (.int .i64 (i - 32400000)) (.int .i64 r) (.int .i64 (-64800000)) ∧ C15 wx (w.heap.size + 1) (.int .i64 0) (.int .i64 0) (.int .i64 0) (.int .i64 0) (.int .i64 0) (.int .i64 0) (.int .i64 0) (.int .i64 0) (.int .i64 0) (.int .i64 0) (.int .i64 0) (.int .i64 0) (.int .i64 0) (.int .i64 0) (.int .i64 0) ∧ Below w.heap.size w wx)
  case first =>
    cases h0 : (E0 == 0)
    · have n0 : (E0 != 0) = true := by simp only [bne, h0]; rfl
      have HQ := Lib.hid (hs_z HX0.out HX1.out HX2.out (by simp [h0]))
      clear h0
      go_wp2_with fail
      go_meet
      exact ⟨⟨_, rfl, HQ⟩, S, Z, B⟩
    · have n0 : (E0 != 0) = false := by simp only [bne, h0]; rfl
      cases h1 : (E1 == 0)
      · have n1 : (E1 != 0) = true := by simp only [bne, h1]; rfl
        have HQ := Lib.hid (hs_z HX0.out HX1.out HX2.out (by simp [h1]))
        clear h0 h1
        go_wp2_with fail
        go_meet
        exact ⟨⟨_, rfl, HQ⟩, S, Z, B⟩
      · have n1 : (E1 != 0) = false := by simp only [bne, h1]; rfl
        cases h2 : (E2 == 0)
        · have n2 : (E2 != 0) = true := by simp only [bne, h2]; rfl
          have HQ := Lib.hid (hs_z HX0.out HX1.out HX2.out (by simp [h2]))
          clear h0 h1 h2
          go_wp2_with fail
          go_meet
          exact ⟨⟨_, rfl, HQ⟩, S, Z, B⟩
        · have n2 : (E2 != 0) = false := by simp only [bne, h2]; rfl
          have HG := Lib.hid (hs_g HX0.out HX1.out HX2.out (by simp [h0, h1, h2]))
          clear h0 h1 h2
          have HP := Lib.hid (fun w => pvalid_any (x1 + (x2 - a)) (y1 + (y2 - b)) w)
          have HC := Lib.hid (fun w => pvalid_any (x0 + (x2 - a)) (y0 + (y2 - b)) w)
          generalize pvd (x1 + (x2 - a)) (y1 + (y2 - b)) = p2v at HP HG
          generalize pvd (x0 + (x2 - a)) (y0 + (y2 - b)) = c2v at HC HG
          have s4 := S.c4
          have s5 := S.c5
          have s10 := S.c10
          have s11 := S.c11
          go_wp2_with fail
          refine (HP.out _).mono ?_
          rintro e w5 ⟨rfl, hb⟩
          clear s4 s5 s10 s11
          replace B := thn B hb
          replace Z := Z.next hb
          replace S := S.next hb
          clear hb
          cases p2v
          · have HQ := Lib.hid (HG.out.trans (Bool.false_and _))
            go_wp2_with fail
            go_meet
            exact ⟨⟨_, rfl, HQ⟩, S, Z, B⟩
          · have s10 := S.c10
            have s11 := S.c11
            go_wp2_with fail
            refine (HC.out _).mono ?_
            rintro e w6 ⟨rfl, hb⟩
            clear s10 s11
            replace B := thn B hb
            replace Z := Z.next hb
            replace S := S.next hb
            clear hb
            have HQ := Lib.hid (HG.out.trans (Bool.true_and _))
            cases c2v
            · go_wp2_with fail
              go_meet
              exact ⟨⟨_, rfl, HQ⟩, S, Z, B⟩
            · go_wp2_with fail
              go_meet
              exact ⟨⟨_, rfl, HQ⟩, S, Z, B⟩
  case rest =>
  obtain ⟨⟨bv, rfl, HG⟩, S, Z, B⟩ := hcut
  cases bv
  · have HQ := Lib.hid (lh_ok (s := (-64800000)) HX0.out HX1.out HX2.out HG.out)
    obtain ⟨s0, s1, s2, s3, s4, s5, s6, s7, s8, s9, s10, s11, s12, s13, s14, f0, f1, f2, f3, f4, f5, f6, f7, f8, f9, f10, f11, f12, f13, f14, sl⟩ := id S
    obtain ⟨z0, z1, z2, z3, z4, z5, z6, z7, z8, z9, z10, z11, z12, z13, z14, g0_, g1_, g2_, g3_, g4_, g5_, g6_, g7_, g8_, g9_, g10_, g11_, g12_, g13_, g14_, zl⟩ := id Z
    go_wp2_with fail
    clear s0 s1 s2 s3 s4 s5 s6 s7 s8 s9 s10 s11 s12 s13 s14 f0 f1 f2 f3 f4 f5 f6 f7 f8 f9 f10 f11 f12 f13 f14 sl
    clear z0 z1 z2 z3 z4 z5 z6 z7 z8 z9 z10 z11 z12 z13 z14 g0_ g1_ g2_ g3_ g4_ g5_ g6_ g7_ g8_ g9_ g10_ g11_ g12_ g13_ g14_ zl
    have Z5 := Z.put (.int .i64 a) (.int .i64 b) (.int .i64 x1) (.int .i64 y1) (.int .i64 (x1 + (x2 - a))) (.int .i64 (y1 + (y2 - b))) (.int .i64 x2) (.int .i64 y2) (.int .i64 x0) (.int .i64 y0) (.int .i64 (x0 + (x2 - a))) (.int .i64 (y0 + (y2 - b))) (.int .i64 (i - 32400000)) (.int .i64 r) (.int .i64 (-64800000))
    have B5 := below_put15 B (b := w.heap.size + 1) (Nat.le_succ _) (.int .i64 a) (.int .i64 b) (.int .i64 x1) (.int .i64 y1) (.int .i64 (x1 + (x2 - a))) (.int .i64 (y1 + (y2 - b))) (.int .i64 x2) (.int .i64 y2) (.int .i64 x0) (.int .i64 y0) (.int .i64 (x0 + (x2 - a))) (.int .i64 (y0 + (y2 - b))) (.int .i64 (i - 32400000)) (.int .i64 r) (.int .i64 (-64800000))
    obtain ⟨z0, z1, z2, z3, z4, z5, z6, z7, z8, z9, z10, z11, z12, z13, z14, g0_, g1_, g2_, g3_, g4_, g5_, g6_, g7_, g8_, g9_, g10_, g11_, g12_, g13_, g14_, zl⟩ := Z5
    exact bodyPost_ret (v := .tuple #[shpH a b x1 y1 (x1 + (x2 - a)) (y1 + (y2 - b)) x2 y2 x0 y0 (x0 + (x2 - a)) (y0 + (y2 - b)) (i - 32400000) r (-64800000), .int .i64 0]) (by simp [results, Try.results23, go_sem, z0, z1, z2, z3, z4, z5, z6, z7, z8, z9, z10, z11, z12, z13, z14]) rfl ⟨by rw [HQ.out.1, HQ.out.2], B5⟩
  · have HQ := Lib.hid (lh_no (s := (-64800000)) HG.out)
    obtain ⟨z0, z1, z2, z3, z4, z5, z6, z7, z8, z9, z10, z11, z12, z13, z14, g0_, g1_, g2_, g3_, g4_, g5_, g6_, g7_, g8_, g9_, g10_, g11_, g12_, g13_, g14_, zl⟩ := id Z
    go_wp2_with fail
    clear z0 z1 z2 z3 z4 z5 z6 z7 z8 z9 z10 z11 z12 z13 z14 g0_ g1_ g2_ g3_ g4_ g5_ g6_ g7_ g8_ g9_ g10_ g11_ g12_ g13_ g14_ zl
    have Z5 := Z.put (.int .i64 0) (.int .i64 0) (.int .i64 0) (.int .i64 0) (.int .i64 0) (.int .i64 0) (.int .i64 0) (.int .i64 0) (.int .i64 0) (.int .i64 0) (.int .i64 0) (.int .i64 0) (.int .i64 0) (.int .i64 0) (.int .i64 0)
    have B5 := below_put15 B (b := w.heap.size + 1) (Nat.le_succ _) (.int .i64 0) (.int .i64 0) (.int .i64 0) (.int .i64 0) (.int .i64 0) (.int .i64 0) (.int .i64 0) (.int .i64 0) (.int .i64 0) (.int .i64 0) (.int .i64 0) (.int .i64 0) (.int .i64 0) (.int .i64 0) (.int .i64 0)
    obtain ⟨z0, z1, z2, z3, z4, z5, z6, z7, z8, z9, z10, z11, z12, z13, z14, g0_, g1_, g2_, g3_, g4_, g5_, g6_, g7_, g8_, g9_, g10_, g11_, g12_, g13_, g14_, zl⟩ := Z5
    exact bodyPost_ret (v := .tuple #[shpH 0 0 0 0 0 0 0 0 0 0 0 0 0 0 0 , .int .i64 2]) (by simp [results, Try.results23, go_sem, z0, z1, z2, z3, z4, z5, z6, z7, z8, z9, z10, z11, z12, z13, z14]) rfl ⟨by rw [HQ.out.1, HQ.out.2], B5⟩

end Go.Proofs.Ytgabdnabcpdinaa
