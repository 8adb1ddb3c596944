/- The points of a pattern: the reference, in range. -/
import Derived.Test.YtgabdnabcpdinaaHldG
namespace Go.Proofs.Ytgabdnabcpdinaa
open Go.RowKit Go.Joins Fdk
set_option linter.unusedVariables false
/-- whether a pattern's points are all in the plane. -/
def hsg (a b u i l r : Int) : Bool := (true && (rayv a b u r).2.2 == 0 && (rayv a b u (2 * r)).2.2 == 0 && (rayv a b (i + 64800000) l).2.2 == 0) && (pvd ((rayv a b u (2 * r)).1 + ((rayv a b (i + 64800000) l).1 - a)) ((rayv a b u (2 * r)).2.1 + ((rayv a b (i + 64800000) l).2.1 - b)) && pvd ((rayv a b u r).1 + ((rayv a b (i + 64800000) l).1 - a)) ((rayv a b u r).2.1 + ((rayv a b (i + 64800000) l).2.1 - b)))
def hsv (a b u i l r s : Int) : Value := if hsg a b u i l r = true then shpR a b (rayv a b u (2 * r)).1 (rayv a b u (2 * r)).2.1 ((rayv a b u (2 * r)).1 + ((rayv a b (i + 64800000) l).1 - a)) ((rayv a b u (2 * r)).2.1 + ((rayv a b (i + 64800000) l).2.1 - b)) (rayv a b (i + 64800000) l).1 (rayv a b (i + 64800000) l).2.1 (rayv a b u r).1 (rayv a b u r).2.1 ((rayv a b u r).1 + ((rayv a b (i + 64800000) l).1 - a)) ((rayv a b u r).2.1 + ((rayv a b (i + 64800000) l).2.1 - b)) u s else shpR 0 0 0 0 0 0 0 0 0 0 0 0 0 0
def hse (a b u i l r : Int) : Int := if hsg a b u i l r = true then 0 else 2
def hu (i k : Int) : Int := if k = 2 then i + 32400000 else i - 32400000
def hsw (k : Int) : Int := if k = 2 then 64800000 else -64800000
theorem hs_no {a b u i l r s : Int} (h : hsg a b u i l r = false) : hsv a b u i l r s = shpR 0 0 0 0 0 0 0 0 0 0 0 0 0 0 ∧ hse a b u i l r = 2 := by
  unfold hsv hse; rw [h]; exact ⟨rfl, rfl⟩
theorem hs_z {a b u i l r x0 y0 E0 x1 y1 E1 x2 y2 E2 : Int} (h0 : (x0, y0, E0) = rayv a b u r) (h1 : (x1, y1, E1) = rayv a b u (2 * r)) (h2 : (x2, y2, E2) = rayv a b (i + 64800000) l) (h : false = (true && E0 == 0 && E1 == 0 && E2 == 0)) : hsg a b u i l r = false := by
  unfold hsg; rw [← h0, ← h1, ← h2]; show ((true && E0 == 0 && E1 == 0 && E2 == 0) && _) = _; rw [← h]; rfl
theorem hs_g {a b u i l r x0 y0 E0 x1 y1 E1 x2 y2 E2 : Int} (h0 : (x0, y0, E0) = rayv a b u r) (h1 : (x1, y1, E1) = rayv a b u (2 * r)) (h2 : (x2, y2, E2) = rayv a b (i + 64800000) l) (h : true = (true && E0 == 0 && E1 == 0 && E2 == 0)) : hsg a b u i l r = (pvd (x1 + (x2 - a)) (y1 + (y2 - b)) && pvd (x0 + (x2 - a)) (y0 + (y2 - b))) := by
  unfold hsg; rw [← h0, ← h1, ← h2]; show ((true && E0 == 0 && E1 == 0 && E2 == 0) && _) = _; rw [← h]; rfl
theorem hs_ok {a b u i l r s x0 y0 E0 x1 y1 E1 x2 y2 E2 : Int} (h0 : (x0, y0, E0) = rayv a b u r) (h1 : (x1, y1, E1) = rayv a b u (2 * r)) (h2 : (x2, y2, E2) = rayv a b (i + 64800000) l) (h : hsg a b u i l r = true) : hsv a b u i l r s = shpR a b x1 y1 (x1 + (x2 - a)) (y1 + (y2 - b)) x2 y2 x0 y0 (x0 + (x2 - a)) (y0 + (y2 - b)) u s ∧ hse a b u i l r = 0 := by
  unfold hsv hse; rw [h, ← h0, ← h1, ← h2]; exact ⟨rfl, rfl⟩
set_option maxRecDepth 8000 in
set_option maxHeartbeats 16000000 in
theorem pts_t1 (a b i l r : Int) (w : World) (h : pvd a b = true) (hr : rng i l r = true) :
    Calls Try.prog 26 #[ptV a b, .int .i64 i, .int .u8 1, .int .i64 l, .int .i64 r] w fun e w' => e = .returned (.tuple #[hsv a b (i - 32400000) i l r (-64800000), .int .i64 (hse a b (i - 32400000) i l r)]) ∧ Below w.heap.size w w' := by
  obtain ⟨⟨i0, i1⟩, ⟨l0, l1⟩, r0, r1⟩ := rng_of hr
  have HV := Lib.hid h
  clear h hr
  have e0 : IntKind.i64.wrap (i + 32400000) = i + 32400000 := IntWalk.i64_in _ (by omega)
  have e1 : IntKind.i64.wrap (i - 32400000) = i - 32400000 := IntWalk.i64_in _ (by omega)
  have e2 : IntKind.i64.wrap (i + 64800000) = i + 64800000 := IntWalk.i64_in _ (by omega)
  have e3 : IntKind.i64.wrap (2 * r) = 2 * r := IntWalk.i64_in _ (by omega)
  have g0 : ¬ i < 0 := by omega
  have g1 : ¬ i ≥ 129600000 := by omega
  have g2 : ¬ l < 1 := by omega
  have g3 : ¬ l > 2000000 := by omega
  have g4 : ¬ r < 1 := by omega
  have g5 : ¬ r > 2000000 := by omega
  clear i0 i1 l0 l1 r0 r1
  go_enter Try.func26, Try.ntmps26
  go_wp2_with fail
  have B := below_alloc2 w (.cells #[.int .i64 a, .int .i64 b] 30) (.cells #[.int .i64 0, .int .i64 0, .int .i64 0, .int .i64 0, .int .i64 0, .int .i64 0, .int .i64 0, .int .i64 0, .int .i64 0, .int .i64 0, .int .i64 0, .int .i64 0, .int .i64 0, .int .i64 0] 56)
  have T := (c2_new w (.int .i64 a) (.int .i64 b) 30).alc (.cells #[.int .i64 0, .int .i64 0, .int .i64 0, .int .i64 0, .int .i64 0, .int .i64 0, .int .i64 0, .int .i64 0, .int .i64 0, .int .i64 0, .int .i64 0, .int .i64 0, .int .i64 0, .int .i64 0] 56)
  have Z := c14_new (w.alloc (.cells #[.int .i64 a, .int .i64 b] 30)) (.int .i64 0) (.int .i64 0) (.int .i64 0) (.int .i64 0) (.int .i64 0) (.int .i64 0) (.int .i64 0) (.int .i64 0) (.int .i64 0) (.int .i64 0) (.int .i64 0) (.int .i64 0) (.int .i64 0) (.int .i64 0) 56
  rw [show (w.alloc (.cells #[.int .i64 a, .int .i64 b] 30)).heap.size = w.heap.size + 1 by simp] at Z
  generalize (w.alloc (.cells #[.int .i64 a, .int .i64 b] 30)).alloc (.cells #[.int .i64 0, .int .i64 0, .int .i64 0, .int .i64 0, .int .i64 0, .int .i64 0, .int .i64 0, .int .i64 0, .int .i64 0, .int .i64 0, .int .i64 0, .int .i64 0, .int .i64 0, .int .i64 0] 56) = w0 at *
  refine (rpvalid_any _ _ _).mono ?_
  rintro e w1 ⟨rfl, hb⟩
  rw [HV.out]
  replace B := thn B hb
  replace T := T.next hb
  replace Z := Z.next hb
  clear hb
  obtain ⟨t0, t1, t2, t3, tl⟩ := id T
  go_wp2_with fail
  clear t0 t1 t2 t3 tl
  have hle : w.heap.size + 2 ≤ w1.heap.size := by have := Z.lt; omega
  have S := (c14_new w1 (.int .i64 a) (.int .i64 b) (.int .i64 0) (.int .i64 0) (.int .i64 0) (.int .i64 0) (.int .i64 0) (.int .i64 0) (.int .i64 0) (.int .i64 0) (.int .i64 0) (.int .i64 0) (.int .i64 (i - 32400000)) (.int .i64 (-64800000)) 56).alc (.cells #[.bool true] 4)
  have K := c1_new (w1.alloc (.cells #[.int .i64 a, .int .i64 b, .int .i64 0, .int .i64 0, .int .i64 0, .int .i64 0, .int .i64 0, .int .i64 0, .int .i64 0, .int .i64 0, .int .i64 0, .int .i64 0, .int .i64 (i - 32400000), .int .i64 (-64800000)] 56)) (.bool true) 4
  rw [show (w1.alloc (.cells #[.int .i64 a, .int .i64 b, .int .i64 0, .int .i64 0, .int .i64 0, .int .i64 0, .int .i64 0, .int .i64 0, .int .i64 0, .int .i64 0, .int .i64 0, .int .i64 0, .int .i64 (i - 32400000), .int .i64 (-64800000)] 56)).heap.size = w1.heap.size + 1 by simp] at K
  replace B := alc (alc B (.cells #[.int .i64 a, .int .i64 b, .int .i64 0, .int .i64 0, .int .i64 0, .int .i64 0, .int .i64 0, .int .i64 0, .int .i64 0, .int .i64 0, .int .i64 0, .int .i64 0, .int .i64 (i - 32400000), .int .i64 (-64800000)] 56)) (.cells #[.bool true] 4)
  replace T := (T.alc (.cells #[.int .i64 a, .int .i64 b, .int .i64 0, .int .i64 0, .int .i64 0, .int .i64 0, .int .i64 0, .int .i64 0, .int .i64 0, .int .i64 0, .int .i64 0, .int .i64 0, .int .i64 (i - 32400000), .int .i64 (-64800000)] 56)).alc (.cells #[.bool true] 4)
  replace Z := (Z.alc (.cells #[.int .i64 a, .int .i64 b, .int .i64 0, .int .i64 0, .int .i64 0, .int .i64 0, .int .i64 0, .int .i64 0, .int .i64 0, .int .i64 0, .int .i64 0, .int .i64 0, .int .i64 (i - 32400000), .int .i64 (-64800000)] 56)).alc (.cells #[.bool true] 4)
  generalize (w1.alloc (.cells #[.int .i64 a, .int .i64 b, .int .i64 0, .int .i64 0, .int .i64 0, .int .i64 0, .int .i64 0, .int .i64 0, .int .i64 0, .int .i64 0, .int .i64 0, .int .i64 0, .int .i64 (i - 32400000), .int .i64 (-64800000)] 56)).alloc (.cells #[.bool true] 4) = v0 at *
  generalize w1.heap.size = bs at *
  have hlb : w.heap.size ≤ bs := by omega
  have hnt : bs ≠ w.heap.size := by omega
  have hnz : bs ≠ w.heap.size + 1 := by omega
  have HR0 := Lib.hid (fun o w K => ray26_any a b (i - 32400000) r (bs + 1) o w K)
  obtain ⟨X0, hX0⟩ : ∃ X, X = rayv a b (i - 32400000) r := ⟨_, rfl⟩
  have bX0 := rayv_b a b (i - 32400000) r
  rw [← hX0] at HR0 bX0
  obtain ⟨x0, y0, E0⟩ := X0
  have HX0 := Lib.hid hX0
  clear hX0
  refine (HR0.out _ _ K).mono ?_
  rintro e w2 ⟨rfl, K2, bx⟩
  replace B := bx.below B (by omega)
  replace T := T.bex bx (by omega)
  replace Z := Z.bex bx (by omega)
  replace S := S.bex bx (by omega)
  clear bx K HR0
  obtain ⟨t0, t1, t2, t3, tl⟩ := id T
  obtain ⟨s0, s1, s2, s3, s4, s5, s6, s7, s8, s9, s10, s11, s12, s13, f0, f1, f2, f3, f4, f5, f6, f7, f8, f9, f10, f11, f12, f13, sl⟩ := id S
  have k0 := K2.c0
  go_wp2_with fail
  clear t0 t1 t2 t3 tl s0 s1 s2 s3 s4 s5 s6 s7 s8 s9 s10 s11 s12 s13 f0 f1 f2 f3 f4 f5 f6 f7 f8 f9 f10 f11 f12 f13 sl k0
  have K := (K2.else (p := ⟨bs, 8, none⟩) (by simp) (.int .i64 x0)).else (p := ⟨bs, 9, none⟩) (by simp) (.int .i64 y0)
  replace B := (B.setCell (p := ⟨bs, 8, none⟩) hlb (.int .i64 x0)).setCell (p := ⟨bs, 9, none⟩) hlb (.int .i64 y0)
  replace T := (T.else (p := ⟨bs, 8, none⟩) hnt (.int .i64 x0)).else (p := ⟨bs, 9, none⟩) hnt (.int .i64 y0)
  replace Z := (Z.else (p := ⟨bs, 8, none⟩) hnz (.int .i64 x0)).else (p := ⟨bs, 9, none⟩) hnz (.int .i64 y0)
  replace S := (S.put8 (.int .i64 x0)).put9 (.int .i64 y0)
  clear K2
  generalize (w2.setCell ⟨bs, 8, none⟩ (.int .i64 x0)).setCell ⟨bs, 9, none⟩ (.int .i64 y0) = v1 at *
  have HR1 := Lib.hid (fun o w K => ray26_any a b (i - 32400000) (2 * r) (bs + 1) o w K)
  obtain ⟨X1, hX1⟩ : ∃ X, X = rayv a b (i - 32400000) (2 * r) := ⟨_, rfl⟩
  have bX1 := rayv_b a b (i - 32400000) (2 * r)
  rw [← hX1] at HR1 bX1
  obtain ⟨x1, y1, E1⟩ := X1
  have HX1 := Lib.hid hX1
  clear hX1
  refine (HR1.out _ _ K).mono ?_
  rintro e w2 ⟨rfl, K2, bx⟩
  replace B := bx.below B (by omega)
  replace T := T.bex bx (by omega)
  replace Z := Z.bex bx (by omega)
  replace S := S.bex bx (by omega)
  clear bx K HR1
  obtain ⟨t0, t1, t2, t3, tl⟩ := id T
  obtain ⟨s0, s1, s2, s3, s4, s5, s6, s7, s8, s9, s10, s11, s12, s13, f0, f1, f2, f3, f4, f5, f6, f7, f8, f9, f10, f11, f12, f13, sl⟩ := id S
  have k0 := K2.c0
  go_wp2_with fail
  clear t0 t1 t2 t3 tl s0 s1 s2 s3 s4 s5 s6 s7 s8 s9 s10 s11 s12 s13 f0 f1 f2 f3 f4 f5 f6 f7 f8 f9 f10 f11 f12 f13 sl k0
  have K := (K2.else (p := ⟨bs, 2, none⟩) (by simp) (.int .i64 x1)).else (p := ⟨bs, 3, none⟩) (by simp) (.int .i64 y1)
  replace B := (B.setCell (p := ⟨bs, 2, none⟩) hlb (.int .i64 x1)).setCell (p := ⟨bs, 3, none⟩) hlb (.int .i64 y1)
  replace T := (T.else (p := ⟨bs, 2, none⟩) hnt (.int .i64 x1)).else (p := ⟨bs, 3, none⟩) hnt (.int .i64 y1)
  replace Z := (Z.else (p := ⟨bs, 2, none⟩) hnz (.int .i64 x1)).else (p := ⟨bs, 3, none⟩) hnz (.int .i64 y1)
  replace S := (S.put2 (.int .i64 x1)).put3 (.int .i64 y1)
  clear K2
  generalize (w2.setCell ⟨bs, 2, none⟩ (.int .i64 x1)).setCell ⟨bs, 3, none⟩ (.int .i64 y1) = v2 at *
  have HR2 := Lib.hid (fun o w K => ray26_any a b ((i + 64800000)) l (bs + 1) o w K)
  obtain ⟨X2, hX2⟩ : ∃ X, X = rayv a b ((i + 64800000)) l := ⟨_, rfl⟩
  have bX2 := rayv_b a b ((i + 64800000)) l
  rw [← hX2] at HR2 bX2
  obtain ⟨x2, y2, E2⟩ := X2
  have HX2 := Lib.hid hX2
  clear hX2
  refine (HR2.out _ _ K).mono ?_
  rintro e w2 ⟨rfl, K2, bx⟩
  replace B := bx.below B (by omega)
  replace T := T.bex bx (by omega)
  replace Z := Z.bex bx (by omega)
  replace S := S.bex bx (by omega)
  clear bx K HR2
  obtain ⟨ok, hok⟩ : ∃ ok, ok = (true && E0 == 0 && E1 == 0 && E2 == 0) := ⟨_, rfl⟩
  rw [← hok] at K2
  have HOK := Lib.hid hok
  clear hok
  cases ok
  · have k0 := K2.c0
    obtain ⟨t0, t1, t2, t3, tl⟩ := id T
    obtain ⟨s0, s1, s2, s3, s4, s5, s6, s7, s8, s9, s10, s11, s12, s13, f0, f1, f2, f3, f4, f5, f6, f7, f8, f9, f10, f11, f12, f13, sl⟩ := id S
    obtain ⟨z0, z1, z2, z3, z4, z5, z6, z7, z8, z9, z10, z11, z12, z13, g0_, g1_, g2_, g3_, g4_, g5_, g6_, g7_, g8_, g9_, g10_, g11_, g12_, g13_, zl⟩ := id Z
    go_wp2_with fail
    clear t0 t1 t2 t3 tl s0 s1 s2 s3 s4 s5 s6 s7 s8 s9 s10 s11 s12 s13 f0 f1 f2 f3 f4 f5 f6 f7 f8 f9 f10 f11 f12 f13 sl
    clear z0 z1 z2 z3 z4 z5 z6 z7 z8 z9 z10 z11 z12 z13 g0_ g1_ g2_ g3_ g4_ g5_ g6_ g7_ g8_ g9_ g10_ g11_ g12_ g13_ zl
    replace B := (B.setCell (p := ⟨bs, 6, none⟩) hlb (.int .i64 x2)).setCell (p := ⟨bs, 7, none⟩) hlb (.int .i64 y2)
    replace Z := (Z.else (p := ⟨bs, 6, none⟩) hnz (.int .i64 x2)).else (p := ⟨bs, 7, none⟩) hnz (.int .i64 y2)
    have HQ := hs_no (s := -64800000) (hs_z HX0.out HX1.out HX2.out HOK.out)
    have Z5 := Z.put (.int .i64 0) (.int .i64 0) (.int .i64 0) (.int .i64 0) (.int .i64 0) (.int .i64 0) (.int .i64 0) (.int .i64 0) (.int .i64 0) (.int .i64 0) (.int .i64 0) (.int .i64 0) (.int .i64 0) (.int .i64 0)
    have B5 := below_put14 B (b := w.heap.size + 1) (Nat.le_succ _) (.int .i64 0) (.int .i64 0) (.int .i64 0) (.int .i64 0) (.int .i64 0) (.int .i64 0) (.int .i64 0) (.int .i64 0) (.int .i64 0) (.int .i64 0) (.int .i64 0) (.int .i64 0) (.int .i64 0) (.int .i64 0)
    obtain ⟨z0, z1, z2, z3, z4, z5, z6, z7, z8, z9, z10, z11, z12, z13, g0_, g1_, g2_, g3_, g4_, g5_, g6_, g7_, g8_, g9_, g10_, g11_, g12_, g13_, zl⟩ := Z5
    exact bodyPost_ret (v := .tuple #[shpR 0 0 0 0 0 0 0 0 0 0 0 0 0 0 , .int .i64 2]) (by simp [results, Try.results26, go_sem, z0, z1, z2, z3, z4, z5, z6, z7, z8, z9, z10, z11, z12, z13]) rfl ⟨by rw [HQ.1, HQ.2], B5⟩
  · have k0 := K2.c0
    obtain ⟨t0, t1, t2, t3, tl⟩ := id T
    obtain ⟨s0, s1, s2, s3, s4, s5, s6, s7, s8, s9, s10, s11, s12, s13, f0, f1, f2, f3, f4, f5, f6, f7, f8, f9, f10, f11, f12, f13, sl⟩ := id S
    go_wp2_with fail
    clear t0 t1 t2 t3 tl s0 s1 s2 s3 s4 s5 s6 s7 s8 s9 s10 s11 s12 s13 f0 f1 f2 f3 f4 f5 f6 f7 f8 f9 f10 f11 f12 f13 sl
    clear k0 K2
    replace B := (B.setCell (p := ⟨bs, 6, none⟩) hlb (.int .i64 x2)).setCell (p := ⟨bs, 7, none⟩) hlb (.int .i64 y2)
    replace T := (T.else (p := ⟨bs, 6, none⟩) hnt (.int .i64 x2)).else (p := ⟨bs, 7, none⟩) hnt (.int .i64 y2)
    replace Z := (Z.else (p := ⟨bs, 6, none⟩) hnz (.int .i64 x2)).else (p := ⟨bs, 7, none⟩) hnz (.int .i64 y2)
    replace S := (S.put6 (.int .i64 x2)).put7 (.int .i64 y2)
    generalize (w2.setCell ⟨bs, 6, none⟩ (.int .i64 x2)).setCell ⟨bs, 7, none⟩ (.int .i64 y2) = v3 at *
    obtain ⟨t0, t1, t2, t3, tl⟩ := id T
    obtain ⟨s0, s1, s2, s3, s4, s5, s6, s7, s8, s9, s10, s11, s12, s13, f0, f1, f2, f3, f4, f5, f6, f7, f8, f9, f10, f11, f12, f13, sl⟩ := id S
    have e4 : IntKind.i64.wrap (x2 - a) = x2 - a := IntWalk.i64_in _ (by have := pvd_of HV.out; omega)
    have e5 : IntKind.i64.wrap (y2 - b) = y2 - b := IntWalk.i64_in _ (by have := pvd_of HV.out; omega)
    go_quiet (fail)
    clear e4 e5
    clear t0 t1 t2 t3 tl s0 s1 s2 s3 s4 s5 s6 s7 s8 s9 s10 s11 s12 s13 f0 f1 f2 f3 f4 f5 f6 f7 f8 f9 f10 f11 f12 f13 sl
    have bd := below_draws v3.heap.size v3 nq
    replace B := thn B bd
    replace T := T.next bd
    replace Z := Z.next bd
    replace S := S.next bd
    clear bd
    generalize v3.drewN nq = v4 at *
    have e6 : IntKind.i64.wrap (x1 + (x2 - a)) = x1 + (x2 - a) := IntWalk.i64_in _ (by have := pvd_of HV.out; omega)
    have e7 : IntKind.i64.wrap (y1 + (y2 - b)) = y1 + (y2 - b) := IntWalk.i64_in _ (by have := pvd_of HV.out; omega)
    have e8 : IntKind.i64.wrap (x0 + (x2 - a)) = x0 + (x2 - a) := IntWalk.i64_in _ (by have := pvd_of HV.out; omega)
    have e9 : IntKind.i64.wrap (y0 + (y2 - b)) = y0 + (y2 - b) := IntWalk.i64_in _ (by have := pvd_of HV.out; omega)
    have HG := Lib.hid (hs_g HX0.out HX1.out HX2.out HOK.out)
    have HP := Lib.hid (fun w => rpvalid_any (x1 + (x2 - a)) (y1 + (y2 - b)) w)
    have HC := Lib.hid (fun w => rpvalid_any (x0 + (x2 - a)) (y0 + (y2 - b)) w)
    generalize pvd (x1 + (x2 - a)) (y1 + (y2 - b)) = p2v at HP HG
    generalize pvd (x0 + (x2 - a)) (y0 + (y2 - b)) = c2v at HC HG
    obtain ⟨t0, t1, t2, t3, tl⟩ := id T
    obtain ⟨s0, s1, s2, s3, s4, s5, s6, s7, s8, s9, s10, s11, s12, s13, f0, f1, f2, f3, f4, f5, f6, f7, f8, f9, f10, f11, f12, f13, sl⟩ := id S
    go_wp2_with fail
    clear t0 t1 t2 t3 tl s0 s1 s2 s3 s4 s5 s6 s7 s8 s9 s10 s11 s12 s13 f0 f1 f2 f3 f4 f5 f6 f7 f8 f9 f10 f11 f12 f13 sl
    clear e6 e7 e8 e9
    replace B := (B.setCell (p := ⟨bs, 4, none⟩) hlb (.int .i64 (x1 + (x2 - a)))).setCell (p := ⟨bs, 5, none⟩) hlb (.int .i64 (y1 + (y2 - b)))
    replace T := (T.else (p := ⟨bs, 4, none⟩) hnt (.int .i64 (x1 + (x2 - a)))).else (p := ⟨bs, 5, none⟩) hnt (.int .i64 (y1 + (y2 - b)))
    replace Z := (Z.else (p := ⟨bs, 4, none⟩) hnz (.int .i64 (x1 + (x2 - a)))).else (p := ⟨bs, 5, none⟩) hnz (.int .i64 (y1 + (y2 - b)))
    replace S := (S.put4 (.int .i64 (x1 + (x2 - a)))).put5 (.int .i64 (y1 + (y2 - b)))
    replace B := (B.setCell (p := ⟨bs, 10, none⟩) hlb (.int .i64 (x0 + (x2 - a)))).setCell (p := ⟨bs, 11, none⟩) hlb (.int .i64 (y0 + (y2 - b)))
    replace T := (T.else (p := ⟨bs, 10, none⟩) hnt (.int .i64 (x0 + (x2 - a)))).else (p := ⟨bs, 11, none⟩) hnt (.int .i64 (y0 + (y2 - b)))
    replace Z := (Z.else (p := ⟨bs, 10, none⟩) hnz (.int .i64 (x0 + (x2 - a)))).else (p := ⟨bs, 11, none⟩) hnz (.int .i64 (y0 + (y2 - b)))
    replace S := (S.put10 (.int .i64 (x0 + (x2 - a)))).put11 (.int .i64 (y0 + (y2 - b)))
    generalize (((v4.setCell ⟨bs, 4, none⟩ (.int .i64 (x1 + (x2 - a)))).setCell ⟨bs, 5, none⟩ (.int .i64 (y1 + (y2 - b)))).setCell ⟨bs, 10, none⟩ (.int .i64 (x0 + (x2 - a)))).setCell ⟨bs, 11, none⟩ (.int .i64 (y0 + (y2 - b))) = v5 at *
    refine (HP.out _).mono ?_
    rintro e w5 ⟨rfl, hb⟩
    replace B := thn B hb
    replace T := T.next hb
    replace Z := Z.next hb
    replace S := S.next hb
    clear hb
    cases p2v
    · have HQ := hs_no (s := -64800000) (HG.out.trans (Bool.false_and _))
      obtain ⟨t0, t1, t2, t3, tl⟩ := id T
      obtain ⟨s0, s1, s2, s3, s4, s5, s6, s7, s8, s9, s10, s11, s12, s13, f0, f1, f2, f3, f4, f5, f6, f7, f8, f9, f10, f11, f12, f13, sl⟩ := id S
      obtain ⟨z0, z1, z2, z3, z4, z5, z6, z7, z8, z9, z10, z11, z12, z13, g0_, g1_, g2_, g3_, g4_, g5_, g6_, g7_, g8_, g9_, g10_, g11_, g12_, g13_, zl⟩ := id Z
      go_wp2_with fail
      have Z5 := Z.put (.int .i64 0) (.int .i64 0) (.int .i64 0) (.int .i64 0) (.int .i64 0) (.int .i64 0) (.int .i64 0) (.int .i64 0) (.int .i64 0) (.int .i64 0) (.int .i64 0) (.int .i64 0) (.int .i64 0) (.int .i64 0)
      have B5 := below_put14 B (b := w.heap.size + 1) (Nat.le_succ _) (.int .i64 0) (.int .i64 0) (.int .i64 0) (.int .i64 0) (.int .i64 0) (.int .i64 0) (.int .i64 0) (.int .i64 0) (.int .i64 0) (.int .i64 0) (.int .i64 0) (.int .i64 0) (.int .i64 0) (.int .i64 0)
      obtain ⟨z0, z1, z2, z3, z4, z5, z6, z7, z8, z9, z10, z11, z12, z13, g0_, g1_, g2_, g3_, g4_, g5_, g6_, g7_, g8_, g9_, g10_, g11_, g12_, g13_, zl⟩ := Z5
      exact bodyPost_ret (v := .tuple #[shpR 0 0 0 0 0 0 0 0 0 0 0 0 0 0 , .int .i64 2]) (by simp [results, Try.results26, go_sem, z0, z1, z2, z3, z4, z5, z6, z7, z8, z9, z10, z11, z12, z13]) rfl ⟨by rw [HQ.1, HQ.2], B5⟩
    · obtain ⟨t0, t1, t2, t3, tl⟩ := id T
      obtain ⟨s0, s1, s2, s3, s4, s5, s6, s7, s8, s9, s10, s11, s12, s13, f0, f1, f2, f3, f4, f5, f6, f7, f8, f9, f10, f11, f12, f13, sl⟩ := id S
      go_wp2_with fail
      refine (HC.out _).mono ?_
      rintro e w6 ⟨rfl, hb⟩
      clear t0 t1 t2 t3 tl s0 s1 s2 s3 s4 s5 s6 s7 s8 s9 s10 s11 s12 s13 f0 f1 f2 f3 f4 f5 f6 f7 f8 f9 f10 f11 f12 f13 sl
      replace B := thn B hb
      replace T := T.next hb
      replace Z := Z.next hb
      replace S := S.next hb
      clear hb
      cases c2v
      · have HQ := hs_no (s := -64800000) HG.out
        obtain ⟨z0, z1, z2, z3, z4, z5, z6, z7, z8, z9, z10, z11, z12, z13, g0_, g1_, g2_, g3_, g4_, g5_, g6_, g7_, g8_, g9_, g10_, g11_, g12_, g13_, zl⟩ := id Z
        go_wp2_with fail
        have Z5 := Z.put (.int .i64 0) (.int .i64 0) (.int .i64 0) (.int .i64 0) (.int .i64 0) (.int .i64 0) (.int .i64 0) (.int .i64 0) (.int .i64 0) (.int .i64 0) (.int .i64 0) (.int .i64 0) (.int .i64 0) (.int .i64 0)
        have B5 := below_put14 B (b := w.heap.size + 1) (Nat.le_succ _) (.int .i64 0) (.int .i64 0) (.int .i64 0) (.int .i64 0) (.int .i64 0) (.int .i64 0) (.int .i64 0) (.int .i64 0) (.int .i64 0) (.int .i64 0) (.int .i64 0) (.int .i64 0) (.int .i64 0) (.int .i64 0)
        obtain ⟨z0, z1, z2, z3, z4, z5, z6, z7, z8, z9, z10, z11, z12, z13, g0_, g1_, g2_, g3_, g4_, g5_, g6_, g7_, g8_, g9_, g10_, g11_, g12_, g13_, zl⟩ := Z5
        exact bodyPost_ret (v := .tuple #[shpR 0 0 0 0 0 0 0 0 0 0 0 0 0 0 , .int .i64 2]) (by simp [results, Try.results26, go_sem, z0, z1, z2, z3, z4, z5, z6, z7, z8, z9, z10, z11, z12, z13]) rfl ⟨by rw [HQ.1, HQ.2], B5⟩
      · have HQ := hs_ok (s := -64800000) HX0.out HX1.out HX2.out HG.out
        obtain ⟨t0, t1, t2, t3, tl⟩ := id T
        obtain ⟨s0, s1, s2, s3, s4, s5, s6, s7, s8, s9, s10, s11, s12, s13, f0, f1, f2, f3, f4, f5, f6, f7, f8, f9, f10, f11, f12, f13, sl⟩ := id S
        obtain ⟨z0, z1, z2, z3, z4, z5, z6, z7, z8, z9, z10, z11, z12, z13, g0_, g1_, g2_, g3_, g4_, g5_, g6_, g7_, g8_, g9_, g10_, g11_, g12_, g13_, zl⟩ := id Z
        go_wp2_with fail
        clear s0 s1 s2 s3 s4 s5 s6 s7 s8 s9 s10 s11 s12 s13 f0 f1 f2 f3 f4 f5 f6 f7 f8 f9 f10 f11 f12 f13 sl
        have Z5 := Z.put (.int .i64 a) (.int .i64 b) (.int .i64 x1) (.int .i64 y1) (.int .i64 (x1 + (x2 - a))) (.int .i64 (y1 + (y2 - b))) (.int .i64 x2) (.int .i64 y2) (.int .i64 x0) (.int .i64 y0) (.int .i64 (x0 + (x2 - a))) (.int .i64 (y0 + (y2 - b))) (.int .i64 (i - 32400000)) (.int .i64 (-64800000))
        have B5 := below_put14 B (b := w.heap.size + 1) (Nat.le_succ _) (.int .i64 a) (.int .i64 b) (.int .i64 x1) (.int .i64 y1) (.int .i64 (x1 + (x2 - a))) (.int .i64 (y1 + (y2 - b))) (.int .i64 x2) (.int .i64 y2) (.int .i64 x0) (.int .i64 y0) (.int .i64 (x0 + (x2 - a))) (.int .i64 (y0 + (y2 - b))) (.int .i64 (i - 32400000)) (.int .i64 (-64800000))
        obtain ⟨z0, z1, z2, z3, z4, z5, z6, z7, z8, z9, z10, z11, z12, z13, g0_, g1_, g2_, g3_, g4_, g5_, g6_, g7_, g8_, g9_, g10_, g11_, g12_, g13_, zl⟩ := Z5
        exact bodyPost_ret (v := .tuple #[shpR a b x1 y1 (x1 + (x2 - a)) (y1 + (y2 - b)) x2 y2 x0 y0 (x0 + (x2 - a)) (y0 + (y2 - b)) (i - 32400000) (-64800000), .int .i64 0]) (by simp [results, Try.results26, go_sem, z0, z1, z2, z3, z4, z5, z6, z7, z8, z9, z10, z11, z12, z13]) rfl ⟨by rw [HQ.1, HQ.2], B5⟩

set_option maxRecDepth 8000 in
set_option maxHeartbeats 16000000 in
theorem pts_t2 (a b i l r : Int) (w : World) (h : pvd a b = true) (hr : rng i l r = true) :
    Calls Try.prog 26 #[ptV a b, .int .i64 i, .int .u8 2, .int .i64 l, .int .i64 r] w fun e w' => e = .returned (.tuple #[hsv a b (i + 32400000) i l r 64800000, .int .i64 (hse a b (i + 32400000) i l r)]) ∧ Below w.heap.size w w' := by
  obtain ⟨⟨i0, i1⟩, ⟨l0, l1⟩, r0, r1⟩ := rng_of hr
  have HV := Lib.hid h
  clear h hr
  have e0 : IntKind.i64.wrap (i + 32400000) = i + 32400000 := IntWalk.i64_in _ (by omega)
  have e1 : IntKind.i64.wrap (i - 32400000) = i - 32400000 := IntWalk.i64_in _ (by omega)
  have e2 : IntKind.i64.wrap (i + 64800000) = i + 64800000 := IntWalk.i64_in _ (by omega)
  have e3 : IntKind.i64.wrap (2 * r) = 2 * r := IntWalk.i64_in _ (by omega)
  have g0 : ¬ i < 0 := by omega
  have g1 : ¬ i ≥ 129600000 := by omega
  have g2 : ¬ l < 1 := by omega
  have g3 : ¬ l > 2000000 := by omega
  have g4 : ¬ r < 1 := by omega
  have g5 : ¬ r > 2000000 := by omega
  clear i0 i1 l0 l1 r0 r1
  go_enter Try.func26, Try.ntmps26
  go_wp2_with fail
  have B := below_alloc2 w (.cells #[.int .i64 a, .int .i64 b] 30) (.cells #[.int .i64 0, .int .i64 0, .int .i64 0, .int .i64 0, .int .i64 0, .int .i64 0, .int .i64 0, .int .i64 0, .int .i64 0, .int .i64 0, .int .i64 0, .int .i64 0, .int .i64 0, .int .i64 0] 56)
  have T := (c2_new w (.int .i64 a) (.int .i64 b) 30).alc (.cells #[.int .i64 0, .int .i64 0, .int .i64 0, .int .i64 0, .int .i64 0, .int .i64 0, .int .i64 0, .int .i64 0, .int .i64 0, .int .i64 0, .int .i64 0, .int .i64 0, .int .i64 0, .int .i64 0] 56)
  have Z := c14_new (w.alloc (.cells #[.int .i64 a, .int .i64 b] 30)) (.int .i64 0) (.int .i64 0) (.int .i64 0) (.int .i64 0) (.int .i64 0) (.int .i64 0) (.int .i64 0) (.int .i64 0) (.int .i64 0) (.int .i64 0) (.int .i64 0) (.int .i64 0) (.int .i64 0) (.int .i64 0) 56
  rw [show (w.alloc (.cells #[.int .i64 a, .int .i64 b] 30)).heap.size = w.heap.size + 1 by simp] at Z
  generalize (w.alloc (.cells #[.int .i64 a, .int .i64 b] 30)).alloc (.cells #[.int .i64 0, .int .i64 0, .int .i64 0, .int .i64 0, .int .i64 0, .int .i64 0, .int .i64 0, .int .i64 0, .int .i64 0, .int .i64 0, .int .i64 0, .int .i64 0, .int .i64 0, .int .i64 0] 56) = w0 at *
  refine (rpvalid_any _ _ _).mono ?_
  rintro e w1 ⟨rfl, hb⟩
  rw [HV.out]
  replace B := thn B hb
  replace T := T.next hb
  replace Z := Z.next hb
  clear hb
  obtain ⟨t0, t1, t2, t3, tl⟩ := id T
  go_wp2_with fail
  clear t0 t1 t2 t3 tl
  have hle : w.heap.size + 2 ≤ w1.heap.size := by have := Z.lt; omega
  have S := (c14_new w1 (.int .i64 a) (.int .i64 b) (.int .i64 0) (.int .i64 0) (.int .i64 0) (.int .i64 0) (.int .i64 0) (.int .i64 0) (.int .i64 0) (.int .i64 0) (.int .i64 0) (.int .i64 0) (.int .i64 (i + 32400000)) (.int .i64 64800000) 56).alc (.cells #[.bool true] 4)
  have K := c1_new (w1.alloc (.cells #[.int .i64 a, .int .i64 b, .int .i64 0, .int .i64 0, .int .i64 0, .int .i64 0, .int .i64 0, .int .i64 0, .int .i64 0, .int .i64 0, .int .i64 0, .int .i64 0, .int .i64 (i + 32400000), .int .i64 64800000] 56)) (.bool true) 4
  rw [show (w1.alloc (.cells #[.int .i64 a, .int .i64 b, .int .i64 0, .int .i64 0, .int .i64 0, .int .i64 0, .int .i64 0, .int .i64 0, .int .i64 0, .int .i64 0, .int .i64 0, .int .i64 0, .int .i64 (i + 32400000), .int .i64 64800000] 56)).heap.size = w1.heap.size + 1 by simp] at K
  replace B := alc (alc B (.cells #[.int .i64 a, .int .i64 b, .int .i64 0, .int .i64 0, .int .i64 0, .int .i64 0, .int .i64 0, .int .i64 0, .int .i64 0, .int .i64 0, .int .i64 0, .int .i64 0, .int .i64 (i + 32400000), .int .i64 64800000] 56)) (.cells #[.bool true] 4)
  replace T := (T.alc (.cells #[.int .i64 a, .int .i64 b, .int .i64 0, .int .i64 0, .int .i64 0, .int .i64 0, .int .i64 0, .int .i64 0, .int .i64 0, .int .i64 0, .int .i64 0, .int .i64 0, .int .i64 (i + 32400000), .int .i64 64800000] 56)).alc (.cells #[.bool true] 4)
  replace Z := (Z.alc (.cells #[.int .i64 a, .int .i64 b, .int .i64 0, .int .i64 0, .int .i64 0, .int .i64 0, .int .i64 0, .int .i64 0, .int .i64 0, .int .i64 0, .int .i64 0, .int .i64 0, .int .i64 (i + 32400000), .int .i64 64800000] 56)).alc (.cells #[.bool true] 4)
  generalize (w1.alloc (.cells #[.int .i64 a, .int .i64 b, .int .i64 0, .int .i64 0, .int .i64 0, .int .i64 0, .int .i64 0, .int .i64 0, .int .i64 0, .int .i64 0, .int .i64 0, .int .i64 0, .int .i64 (i + 32400000), .int .i64 64800000] 56)).alloc (.cells #[.bool true] 4) = v0 at *
  generalize w1.heap.size = bs at *
  have hlb : w.heap.size ≤ bs := by omega
  have hnt : bs ≠ w.heap.size := by omega
  have hnz : bs ≠ w.heap.size + 1 := by omega
  have HR0 := Lib.hid (fun o w K => ray26_any a b (i + 32400000) r (bs + 1) o w K)
  obtain ⟨X0, hX0⟩ : ∃ X, X = rayv a b (i + 32400000) r := ⟨_, rfl⟩
  have bX0 := rayv_b a b (i + 32400000) r
  rw [← hX0] at HR0 bX0
  obtain ⟨x0, y0, E0⟩ := X0
  have HX0 := Lib.hid hX0
  clear hX0
  refine (HR0.out _ _ K).mono ?_
  rintro e w2 ⟨rfl, K2, bx⟩
  replace B := bx.below B (by omega)
  replace T := T.bex bx (by omega)
  replace Z := Z.bex bx (by omega)
  replace S := S.bex bx (by omega)
  clear bx K HR0
  obtain ⟨t0, t1, t2, t3, tl⟩ := id T
  obtain ⟨s0, s1, s2, s3, s4, s5, s6, s7, s8, s9, s10, s11, s12, s13, f0, f1, f2, f3, f4, f5, f6, f7, f8, f9, f10, f11, f12, f13, sl⟩ := id S
  have k0 := K2.c0
  go_wp2_with fail
  clear t0 t1 t2 t3 tl s0 s1 s2 s3 s4 s5 s6 s7 s8 s9 s10 s11 s12 s13 f0 f1 f2 f3 f4 f5 f6 f7 f8 f9 f10 f11 f12 f13 sl k0
  have K := (K2.else (p := ⟨bs, 8, none⟩) (by simp) (.int .i64 x0)).else (p := ⟨bs, 9, none⟩) (by simp) (.int .i64 y0)
  replace B := (B.setCell (p := ⟨bs, 8, none⟩) hlb (.int .i64 x0)).setCell (p := ⟨bs, 9, none⟩) hlb (.int .i64 y0)
  replace T := (T.else (p := ⟨bs, 8, none⟩) hnt (.int .i64 x0)).else (p := ⟨bs, 9, none⟩) hnt (.int .i64 y0)
  replace Z := (Z.else (p := ⟨bs, 8, none⟩) hnz (.int .i64 x0)).else (p := ⟨bs, 9, none⟩) hnz (.int .i64 y0)
  replace S := (S.put8 (.int .i64 x0)).put9 (.int .i64 y0)
  clear K2
  generalize (w2.setCell ⟨bs, 8, none⟩ (.int .i64 x0)).setCell ⟨bs, 9, none⟩ (.int .i64 y0) = v1 at *
  have HR1 := Lib.hid (fun o w K => ray26_any a b (i + 32400000) (2 * r) (bs + 1) o w K)
  obtain ⟨X1, hX1⟩ : ∃ X, X = rayv a b (i + 32400000) (2 * r) := ⟨_, rfl⟩
  have bX1 := rayv_b a b (i + 32400000) (2 * r)
  rw [← hX1] at HR1 bX1
  obtain ⟨x1, y1, E1⟩ := X1
  have HX1 := Lib.hid hX1
  clear hX1
  refine (HR1.out _ _ K).mono ?_
  rintro e w2 ⟨rfl, K2, bx⟩
  replace B := bx.below B (by omega)
  replace T := T.bex bx (by omega)
  replace Z := Z.bex bx (by omega)
  replace S := S.bex bx (by omega)
  clear bx K HR1
  obtain ⟨t0, t1, t2, t3, tl⟩ := id T
  obtain ⟨s0, s1, s2, s3, s4, s5, s6, s7, s8, s9, s10, s11, s12, s13, f0, f1, f2, f3, f4, f5, f6, f7, f8, f9, f10, f11, f12, f13, sl⟩ := id S
  have k0 := K2.c0
  go_wp2_with fail
  clear t0 t1 t2 t3 tl s0 s1 s2 s3 s4 s5 s6 s7 s8 s9 s10 s11 s12 s13 f0 f1 f2 f3 f4 f5 f6 f7 f8 f9 f10 f11 f12 f13 sl k0
  have K := (K2.else (p := ⟨bs, 2, none⟩) (by simp) (.int .i64 x1)).else (p := ⟨bs, 3, none⟩) (by simp) (.int .i64 y1)
  replace B := (B.setCell (p := ⟨bs, 2, none⟩) hlb (.int .i64 x1)).setCell (p := ⟨bs, 3, none⟩) hlb (.int .i64 y1)
  replace T := (T.else (p := ⟨bs, 2, none⟩) hnt (.int .i64 x1)).else (p := ⟨bs, 3, none⟩) hnt (.int .i64 y1)
  replace Z := (Z.else (p := ⟨bs, 2, none⟩) hnz (.int .i64 x1)).else (p := ⟨bs, 3, none⟩) hnz (.int .i64 y1)
  replace S := (S.put2 (.int .i64 x1)).put3 (.int .i64 y1)
  clear K2
  generalize (w2.setCell ⟨bs, 2, none⟩ (.int .i64 x1)).setCell ⟨bs, 3, none⟩ (.int .i64 y1) = v2 at *
  have HR2 := Lib.hid (fun o w K => ray26_any a b ((i + 64800000)) l (bs + 1) o w K)
  obtain ⟨X2, hX2⟩ : ∃ X, X = rayv a b ((i + 64800000)) l := ⟨_, rfl⟩
  have bX2 := rayv_b a b ((i + 64800000)) l
  rw [← hX2] at HR2 bX2
  obtain ⟨x2, y2, E2⟩ := X2
  have HX2 := Lib.hid hX2
  clear hX2
  refine (HR2.out _ _ K).mono ?_
  rintro e w2 ⟨rfl, K2, bx⟩
  replace B := bx.below B (by omega)
  replace T := T.bex bx (by omega)
  replace Z := Z.bex bx (by omega)
  replace S := S.bex bx (by omega)
  clear bx K HR2
  obtain ⟨ok, hok⟩ : ∃ ok, ok = (true && E0 == 0 && E1 == 0 && E2 == 0) := ⟨_, rfl⟩
  rw [← hok] at K2
  have HOK := Lib.hid hok
  clear hok
  cases ok
  · have k0 := K2.c0
    obtain ⟨t0, t1, t2, t3, tl⟩ := id T
    obtain ⟨s0, s1, s2, s3, s4, s5, s6, s7, s8, s9, s10, s11, s12, s13, f0, f1, f2, f3, f4, f5, f6, f7, f8, f9, f10, f11, f12, f13, sl⟩ := id S
    obtain ⟨z0, z1, z2, z3, z4, z5, z6, z7, z8, z9, z10, z11, z12, z13, g0_, g1_, g2_, g3_, g4_, g5_, g6_, g7_, g8_, g9_, g10_, g11_, g12_, g13_, zl⟩ := id Z
    go_wp2_with fail
    clear t0 t1 t2 t3 tl s0 s1 s2 s3 s4 s5 s6 s7 s8 s9 s10 s11 s12 s13 f0 f1 f2 f3 f4 f5 f6 f7 f8 f9 f10 f11 f12 f13 sl
    clear z0 z1 z2 z3 z4 z5 z6 z7 z8 z9 z10 z11 z12 z13 g0_ g1_ g2_ g3_ g4_ g5_ g6_ g7_ g8_ g9_ g10_ g11_ g12_ g13_ zl
    replace B := (B.setCell (p := ⟨bs, 6, none⟩) hlb (.int .i64 x2)).setCell (p := ⟨bs, 7, none⟩) hlb (.int .i64 y2)
    replace Z := (Z.else (p := ⟨bs, 6, none⟩) hnz (.int .i64 x2)).else (p := ⟨bs, 7, none⟩) hnz (.int .i64 y2)
    have HQ := hs_no (s := 64800000) (hs_z HX0.out HX1.out HX2.out HOK.out)
    have Z5 := Z.put (.int .i64 0) (.int .i64 0) (.int .i64 0) (.int .i64 0) (.int .i64 0) (.int .i64 0) (.int .i64 0) (.int .i64 0) (.int .i64 0) (.int .i64 0) (.int .i64 0) (.int .i64 0) (.int .i64 0) (.int .i64 0)
    have B5 := below_put14 B (b := w.heap.size + 1) (Nat.le_succ _) (.int .i64 0) (.int .i64 0) (.int .i64 0) (.int .i64 0) (.int .i64 0) (.int .i64 0) (.int .i64 0) (.int .i64 0) (.int .i64 0) (.int .i64 0) (.int .i64 0) (.int .i64 0) (.int .i64 0) (.int .i64 0)
    obtain ⟨z0, z1, z2, z3, z4, z5, z6, z7, z8, z9, z10, z11, z12, z13, g0_, g1_, g2_, g3_, g4_, g5_, g6_, g7_, g8_, g9_, g10_, g11_, g12_, g13_, zl⟩ := Z5
    exact bodyPost_ret (v := .tuple #[shpR 0 0 0 0 0 0 0 0 0 0 0 0 0 0 , .int .i64 2]) (by simp [results, Try.results26, go_sem, z0, z1, z2, z3, z4, z5, z6, z7, z8, z9, z10, z11, z12, z13]) rfl ⟨by rw [HQ.1, HQ.2], B5⟩
  · have k0 := K2.c0
    obtain ⟨t0, t1, t2, t3, tl⟩ := id T
    obtain ⟨s0, s1, s2, s3, s4, s5, s6, s7, s8, s9, s10, s11, s12, s13, f0, f1, f2, f3, f4, f5, f6, f7, f8, f9, f10, f11, f12, f13, sl⟩ := id S
    go_wp2_with fail
    clear t0 t1 t2 t3 tl s0 s1 s2 s3 s4 s5 s6 s7 s8 s9 s10 s11 s12 s13 f0 f1 f2 f3 f4 f5 f6 f7 f8 f9 f10 f11 f12 f13 sl
    clear k0 K2
    replace B := (B.setCell (p := ⟨bs, 6, none⟩) hlb (.int .i64 x2)).setCell (p := ⟨bs, 7, none⟩) hlb (.int .i64 y2)
    replace T := (T.else (p := ⟨bs, 6, none⟩) hnt (.int .i64 x2)).else (p := ⟨bs, 7, none⟩) hnt (.int .i64 y2)
    replace Z := (Z.else (p := ⟨bs, 6, none⟩) hnz (.int .i64 x2)).else (p := ⟨bs, 7, none⟩) hnz (.int .i64 y2)
    replace S := (S.put6 (.int .i64 x2)).put7 (.int .i64 y2)
    generalize (w2.setCell ⟨bs, 6, none⟩ (.int .i64 x2)).setCell ⟨bs, 7, none⟩ (.int .i64 y2) = v3 at *
    obtain ⟨t0, t1, t2, t3, tl⟩ := id T
    obtain ⟨s0, s1, s2, s3, s4, s5, s6, s7, s8, s9, s10, s11, s12, s13, f0, f1, f2, f3, f4, f5, f6, f7, f8, f9, f10, f11, f12, f13, sl⟩ := id S
    have e4 : IntKind.i64.wrap (x2 - a) = x2 - a := IntWalk.i64_in _ (by have := pvd_of HV.out; omega)
    have e5 : IntKind.i64.wrap (y2 - b) = y2 - b := IntWalk.i64_in _ (by have := pvd_of HV.out; omega)
    go_quiet (fail)
    clear e4 e5
    clear t0 t1 t2 t3 tl s0 s1 s2 s3 s4 s5 s6 s7 s8 s9 s10 s11 s12 s13 f0 f1 f2 f3 f4 f5 f6 f7 f8 f9 f10 f11 f12 f13 sl
    have bd := below_draws v3.heap.size v3 nq
    replace B := thn B bd
    replace T := T.next bd
    replace Z := Z.next bd
    replace S := S.next bd
    clear bd
    generalize v3.drewN nq = v4 at *
    have e6 : IntKind.i64.wrap (x1 + (x2 - a)) = x1 + (x2 - a) := IntWalk.i64_in _ (by have := pvd_of HV.out; omega)
    have e7 : IntKind.i64.wrap (y1 + (y2 - b)) = y1 + (y2 - b) := IntWalk.i64_in _ (by have := pvd_of HV.out; omega)
    have e8 : IntKind.i64.wrap (x0 + (x2 - a)) = x0 + (x2 - a) := IntWalk.i64_in _ (by have := pvd_of HV.out; omega)
    have e9 : IntKind.i64.wrap (y0 + (y2 - b)) = y0 + (y2 - b) := IntWalk.i64_in _ (by have := pvd_of HV.out; omega)
    have HG := Lib.hid (hs_g HX0.out HX1.out HX2.out HOK.out)
    have HP := Lib.hid (fun w => rpvalid_any (x1 + (x2 - a)) (y1 + (y2 - b)) w)
    have HC := Lib.hid (fun w => rpvalid_any (x0 + (x2 - a)) (y0 + (y2 - b)) w)
    generalize pvd (x1 + (x2 - a)) (y1 + (y2 - b)) = p2v at HP HG
    generalize pvd (x0 + (x2 - a)) (y0 + (y2 - b)) = c2v at HC HG
    obtain ⟨t0, t1, t2, t3, tl⟩ := id T
    obtain ⟨s0, s1, s2, s3, s4, s5, s6, s7, s8, s9, s10, s11, s12, s13, f0, f1, f2, f3, f4, f5, f6, f7, f8, f9, f10, f11, f12, f13, sl⟩ := id S
    go_wp2_with fail
    clear t0 t1 t2 t3 tl s0 s1 s2 s3 s4 s5 s6 s7 s8 s9 s10 s11 s12 s13 f0 f1 f2 f3 f4 f5 f6 f7 f8 f9 f10 f11 f12 f13 sl
    clear e6 e7 e8 e9
    replace B := (B.setCell (p := ⟨bs, 4, none⟩) hlb (.int .i64 (x1 + (x2 - a)))).setCell (p := ⟨bs, 5, none⟩) hlb (.int .i64 (y1 + (y2 - b)))
    replace T := (T.else (p := ⟨bs, 4, none⟩) hnt (.int .i64 (x1 + (x2 - a)))).else (p := ⟨bs, 5, none⟩) hnt (.int .i64 (y1 + (y2 - b)))
    replace Z := (Z.else (p := ⟨bs, 4, none⟩) hnz (.int .i64 (x1 + (x2 - a)))).else (p := ⟨bs, 5, none⟩) hnz (.int .i64 (y1 + (y2 - b)))
    replace S := (S.put4 (.int .i64 (x1 + (x2 - a)))).put5 (.int .i64 (y1 + (y2 - b)))
    replace B := (B.setCell (p := ⟨bs, 10, none⟩) hlb (.int .i64 (x0 + (x2 - a)))).setCell (p := ⟨bs, 11, none⟩) hlb (.int .i64 (y0 + (y2 - b)))
    replace T := (T.else (p := ⟨bs, 10, none⟩) hnt (.int .i64 (x0 + (x2 - a)))).else (p := ⟨bs, 11, none⟩) hnt (.int .i64 (y0 + (y2 - b)))
    replace Z := (Z.else (p := ⟨bs, 10, none⟩) hnz (.int .i64 (x0 + (x2 - a)))).else (p := ⟨bs, 11, none⟩) hnz (.int .i64 (y0 + (y2 - b)))
    replace S := (S.put10 (.int .i64 (x0 + (x2 - a)))).put11 (.int .i64 (y0 + (y2 - b)))
    generalize (((v4.setCell ⟨bs, 4, none⟩ (.int .i64 (x1 + (x2 - a)))).setCell ⟨bs, 5, none⟩ (.int .i64 (y1 + (y2 - b)))).setCell ⟨bs, 10, none⟩ (.int .i64 (x0 + (x2 - a)))).setCell ⟨bs, 11, none⟩ (.int .i64 (y0 + (y2 - b))) = v5 at *
    refine (HP.out _).mono ?_
    rintro e w5 ⟨rfl, hb⟩
    replace B := thn B hb
    replace T := T.next hb
    replace Z := Z.next hb
    replace S := S.next hb
    clear hb
    cases p2v
    · have HQ := hs_no (s := 64800000) (HG.out.trans (Bool.false_and _))
      obtain ⟨t0, t1, t2, t3, tl⟩ := id T
      obtain ⟨s0, s1, s2, s3, s4, s5, s6, s7, s8, s9, s10, s11, s12, s13, f0, f1, f2, f3, f4, f5, f6, f7, f8, f9, f10, f11, f12, f13, sl⟩ := id S
      obtain ⟨z0, z1, z2, z3, z4, z5, z6, z7, z8, z9, z10, z11, z12, z13, g0_, g1_, g2_, g3_, g4_, g5_, g6_, g7_, g8_, g9_, g10_, g11_, g12_, g13_, zl⟩ := id Z
      go_wp2_with fail
      have Z5 := Z.put (.int .i64 0) (.int .i64 0) (.int .i64 0) (.int .i64 0) (.int .i64 0) (.int .i64 0) (.int .i64 0) (.int .i64 0) (.int .i64 0) (.int .i64 0) (.int .i64 0) (.int .i64 0) (.int .i64 0) (.int .i64 0)
      have B5 := below_put14 B (b := w.heap.size + 1) (Nat.le_succ _) (.int .i64 0) (.int .i64 0) (.int .i64 0) (.int .i64 0) (.int .i64 0) (.int .i64 0) (.int .i64 0) (.int .i64 0) (.int .i64 0) (.int .i64 0) (.int .i64 0) (.int .i64 0) (.int .i64 0) (.int .i64 0)
      obtain ⟨z0, z1, z2, z3, z4, z5, z6, z7, z8, z9, z10, z11, z12, z13, g0_, g1_, g2_, g3_, g4_, g5_, g6_, g7_, g8_, g9_, g10_, g11_, g12_, g13_, zl⟩ := Z5
      exact bodyPost_ret (v := .tuple #[shpR 0 0 0 0 0 0 0 0 0 0 0 0 0 0 , .int .i64 2]) (by simp [results, Try.results26, go_sem, z0, z1, z2, z3, z4, z5, z6, z7, z8, z9, z10, z11, z12, z13]) rfl ⟨by rw [HQ.1, HQ.2], B5⟩
    · obtain ⟨t0, t1, t2, t3, tl⟩ := id T
      obtain ⟨s0, s1, s2, s3, s4, s5, s6, s7, s8, s9, s10, s11, s12, s13, f0, f1, f2, f3, f4, f5, f6, f7, f8, f9, f10, f11, f12, f13, sl⟩ := id S
      go_wp2_with fail
      refine (HC.out _).mono ?_
      rintro e w6 ⟨rfl, hb⟩
      clear t0 t1 t2 t3 tl s0 s1 s2 s3 s4 s5 s6 s7 s8 s9 s10 s11 s12 s13 f0 f1 f2 f3 f4 f5 f6 f7 f8 f9 f10 f11 f12 f13 sl
      replace B := thn B hb
      replace T := T.next hb
      replace Z := Z.next hb
      replace S := S.next hb
      clear hb
      cases c2v
      · have HQ := hs_no (s := 64800000) HG.out
        obtain ⟨z0, z1, z2, z3, z4, z5, z6, z7, z8, z9, z10, z11, z12, z13, g0_, g1_, g2_, g3_, g4_, g5_, g6_, g7_, g8_, g9_, g10_, g11_, g12_, g13_, zl⟩ := id Z
        go_wp2_with fail
        have Z5 := Z.put (.int .i64 0) (.int .i64 0) (.int .i64 0) (.int .i64 0) (.int .i64 0) (.int .i64 0) (.int .i64 0) (.int .i64 0) (.int .i64 0) (.int .i64 0) (.int .i64 0) (.int .i64 0) (.int .i64 0) (.int .i64 0)
        have B5 := below_put14 B (b := w.heap.size + 1) (Nat.le_succ _) (.int .i64 0) (.int .i64 0) (.int .i64 0) (.int .i64 0) (.int .i64 0) (.int .i64 0) (.int .i64 0) (.int .i64 0) (.int .i64 0) (.int .i64 0) (.int .i64 0) (.int .i64 0) (.int .i64 0) (.int .i64 0)
        obtain ⟨z0, z1, z2, z3, z4, z5, z6, z7, z8, z9, z10, z11, z12, z13, g0_, g1_, g2_, g3_, g4_, g5_, g6_, g7_, g8_, g9_, g10_, g11_, g12_, g13_, zl⟩ := Z5
        exact bodyPost_ret (v := .tuple #[shpR 0 0 0 0 0 0 0 0 0 0 0 0 0 0 , .int .i64 2]) (by simp [results, Try.results26, go_sem, z0, z1, z2, z3, z4, z5, z6, z7, z8, z9, z10, z11, z12, z13]) rfl ⟨by rw [HQ.1, HQ.2], B5⟩
      · have HQ := hs_ok (s := 64800000) HX0.out HX1.out HX2.out HG.out
        obtain ⟨t0, t1, t2, t3, tl⟩ := id T
        obtain ⟨s0, s1, s2, s3, s4, s5, s6, s7, s8, s9, s10, s11, s12, s13, f0, f1, f2, f3, f4, f5, f6, f7, f8, f9, f10, f11, f12, f13, sl⟩ := id S
        obtain ⟨z0, z1, z2, z3, z4, z5, z6, z7, z8, z9, z10, z11, z12, z13, g0_, g1_, g2_, g3_, g4_, g5_, g6_, g7_, g8_, g9_, g10_, g11_, g12_, g13_, zl⟩ := id Z
        go_wp2_with fail
        clear s0 s1 s2 s3 s4 s5 s6 s7 s8 s9 s10 s11 s12 s13 f0 f1 f2 f3 f4 f5 f6 f7 f8 f9 f10 f11 f12 f13 sl
        have Z5 := Z.put (.int .i64 a) (.int .i64 b) (.int .i64 x1) (.int .i64 y1) (.int .i64 (x1 + (x2 - a))) (.int .i64 (y1 + (y2 - b))) (.int .i64 x2) (.int .i64 y2) (.int .i64 x0) (.int .i64 y0) (.int .i64 (x0 + (x2 - a))) (.int .i64 (y0 + (y2 - b))) (.int .i64 (i + 32400000)) (.int .i64 64800000)
        have B5 := below_put14 B (b := w.heap.size + 1) (Nat.le_succ _) (.int .i64 a) (.int .i64 b) (.int .i64 x1) (.int .i64 y1) (.int .i64 (x1 + (x2 - a))) (.int .i64 (y1 + (y2 - b))) (.int .i64 x2) (.int .i64 y2) (.int .i64 x0) (.int .i64 y0) (.int .i64 (x0 + (x2 - a))) (.int .i64 (y0 + (y2 - b))) (.int .i64 (i + 32400000)) (.int .i64 64800000)
        obtain ⟨z0, z1, z2, z3, z4, z5, z6, z7, z8, z9, z10, z11, z12, z13, g0_, g1_, g2_, g3_, g4_, g5_, g6_, g7_, g8_, g9_, g10_, g11_, g12_, g13_, zl⟩ := Z5
        exact bodyPost_ret (v := .tuple #[shpR a b x1 y1 (x1 + (x2 - a)) (y1 + (y2 - b)) x2 y2 x0 y0 (x0 + (x2 - a)) (y0 + (y2 - b)) (i + 32400000) 64800000, .int .i64 0]) (by simp [results, Try.results26, go_sem, z0, z1, z2, z3, z4, z5, z6, z7, z8, z9, z10, z11, z12, z13]) rfl ⟨by rw [HQ.1, HQ.2], B5⟩

theorem pts_any (a b i k l r : Int) (w : World) (h : pvd a b = true) (hk : k = 1 ∨ k = 2) (hr : rng i l r = true) :
    Calls Try.prog 26 #[ptV a b, .int .i64 i, .int .u8 k, .int .i64 l, .int .i64 r] w fun e w' => e = .returned (.tuple #[hsv a b (hu i k) i l r (hsw k), .int .i64 (hse a b (hu i k) i l r)]) ∧ Below w.heap.size w w' := by
  rcases hk with rfl | rfl
  · exact pts_t1 a b i l r w h hr
  · exact pts_t2 a b i l r w h hr
end Go.Proofs.Ytgabdnabcpdinaa
