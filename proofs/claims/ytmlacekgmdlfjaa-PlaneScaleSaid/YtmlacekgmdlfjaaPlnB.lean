/- Package plane and its reference: the point of a position. -/
import Derived.Test.YtmlacekgmdlfjaaPlnA
namespace Go.Proofs.Ytmlacekgmdlfjaa
open Go.RowKit Go.Joins Fdk
set_option linter.unusedVariables false
theorem org_vd {a b : Int} (h : org a b = true) : vd a b = true := by
  simp only [org, Bool.and_eq_true] at h; exact h.1
abbrev Pt3 (c : Int × Int × Int) : Ending := .returned (.tuple #[ptV c.1 c.2.1, .int .i64 c.2.2])
theorem pt3 {c d : Int × Int × Int} (h : c = d) : Pt3 c = Pt3 d := by rw [h]
/-- the point of a position, and the error. -/
def tov (a b c d : Int) : Int × Int × Int := if org a b && vd c d then (if lz a b c d ≤ 0 then (0, 0, 2) else if pvd (qnear (20626481 * lx b c d) (lz a b c d)) (qnear (20626481 * ly a b c d) (lz a b c d)) then (qnear (20626481 * lx b c d) (lz a b c d), qnear (20626481 * ly a b c d) (lz a b c d), 0) else (0, 0, 2)) else (0, 0, 1)
set_option maxHeartbeats 4000000 in
theorem to_a (a b c d : Int) (w : World) (h1 : org a b = false) :
    Calls Try.prog 16 #[posV a b, posV c d] w fun e w' => e = Pt3 (0, 0, 1) ∧ Below w.heap.size w w' := by
  go_enter Try.func16, Try.ntmps16
  go_wp2_with fail
  refine (isorg_any _ _ _).mono ?_
  rintro e w1 ⟨rfl, hb⟩
  have B := thn (below_alloc3 w _ _ _) hb
  have T := (((c2_new w (.int .i64 a) (.int .i64 b) 23).alc _).alc _).next hb
  have U := ((c2_new _ (.int .i64 c) (.int .i64 d) 23).alc _).next hb
  have Z := (c2_new _ (.int .i64 0) (.int .i64 0) 25).next hb
  simp only [World.alloc, Array.size_push] at U Z
  clear hb
  obtain ⟨z0, z1, z2, z3, zl⟩ := id Z
  rw [h1]
  go_wp2
  exact bodyPost_ret (v := .tuple #[ptV (0) (0), .int .i64 1]) (by simp [results, Try.results16, go_sem, *]) rfl ⟨rfl, below_put2 B (b := w.heap.size + 1 + 1) (Nat.le_succ_of_le (Nat.le_succ _)) _ _⟩
set_option maxHeartbeats 4000000 in
theorem to_b (a b c d : Int) (w : World) (h1 : org a b = true) (h2 : vd c d = false) :
    Calls Try.prog 16 #[posV a b, posV c d] w fun e w' => e = Pt3 (0, 0, 1) ∧ Below w.heap.size w w' := by
  go_enter Try.func16, Try.ntmps16
  go_wp2_with fail
  refine (isorg_any _ _ _).mono ?_
  rintro e w1 ⟨rfl, hb⟩
  have B := thn (below_alloc3 w _ _ _) hb
  have T := (((c2_new w (.int .i64 a) (.int .i64 b) 23).alc _).alc _).next hb
  have U := ((c2_new _ (.int .i64 c) (.int .i64 d) 23).alc _).next hb
  have Z := (c2_new _ (.int .i64 0) (.int .i64 0) 25).next hb
  simp only [World.alloc, Array.size_push] at U Z
  clear hb
  obtain ⟨u0, u1, u2, u3, ul⟩ := id U
  rw [h1]
  go_wp2_with fail
  clear u0 u1 u2 u3 ul
  refine (valid_any _ _ _).mono ?_
  rintro e w2 ⟨rfl, hb⟩
  replace B := thn B hb
  replace T := T.next hb
  replace U := U.next hb
  replace Z := Z.next hb
  clear hb
  rw [h2]
  obtain ⟨z0, z1, z2, z3, zl⟩ := id Z
  go_wp2
  exact bodyPost_ret (v := .tuple #[ptV (0) (0), .int .i64 1]) (by simp [results, Try.results16, go_sem, *]) rfl ⟨rfl, below_put2 B (b := w.heap.size + 1 + 1) (Nat.le_succ_of_le (Nat.le_succ _)) _ _⟩
set_option maxHeartbeats 4000000 in
theorem to_c (a b c d : Int) (w : World) (h1 : org a b = true) (h2 : vd c d = true) (h3 : lz a b c d ≤ 0) :
    Calls Try.prog 16 #[posV a b, posV c d] w fun e w' => e = Pt3 (0, 0, 2) ∧ Below w.heap.size w w' := by
  have HL := Lib.hid (show lclv a b c d = (lx b c d, ly a b c d, lz a b c d, 0) by unfold lclv; rw [if_pos (by rw [org_vd h1, h2]; rfl)])
  go_enter Try.func16, Try.ntmps16
  go_wp2_with fail
  refine (isorg_any _ _ _).mono ?_
  rintro e w1 ⟨rfl, hb⟩
  have B := thn (below_alloc3 w _ _ _) hb
  have T := (((c2_new w (.int .i64 a) (.int .i64 b) 23).alc _).alc _).next hb
  have U := ((c2_new _ (.int .i64 c) (.int .i64 d) 23).alc _).next hb
  have Z := (c2_new _ (.int .i64 0) (.int .i64 0) 25).next hb
  simp only [World.alloc, Array.size_push] at U Z
  clear hb
  obtain ⟨u0, u1, u2, u3, ul⟩ := id U
  rw [h1]
  go_wp2_with fail
  clear u0 u1 u2 u3 ul
  refine (valid_any _ _ _).mono ?_
  rintro e w2 ⟨rfl, hb⟩
  replace B := thn B hb
  replace T := T.next hb
  replace U := U.next hb
  replace Z := Z.next hb
  clear hb
  rw [h2]
  obtain ⟨t0, t1, t2, t3, tl⟩ := id T
  obtain ⟨u0, u1, u2, u3, ul⟩ := id U
  go_wp2_with fail
  clear t0 t1 t2 t3 tl
  clear u0 u1 u2 u3 ul
  refine (Local_any _ _ _ _ _).mono ?_
  rintro e w3 ⟨rfl, hb⟩
  replace B := alc (thn B hb) (.cells #[.int .i64 (lx b c d), .int .i64 (ly a b c d), .int .i64 (lz a b c d)] 44)
  replace Z := (Z.next hb).alc (.cells #[.int .i64 (lx b c d), .int .i64 (ly a b c d), .int .i64 (lz a b c d)] 44)
  have V := c3_new w3 (.int .i64 (lx b c d)) (.int .i64 (ly a b c d)) (.int .i64 (lz a b c d)) 44
  clear hb T U
  rw [HL.out]
  generalize hX : lx b c d = X at *
  generalize hY : ly a b c d = Y at *
  generalize hZ : lz a b c d = L at *
  clear hX hY hZ
  obtain ⟨v0, v1, v2, v3, v4, v5, vl⟩ := id V
  obtain ⟨z0, z1, z2, z3, zl⟩ := id Z
  go_wp2
  exact bodyPost_ret (v := .tuple #[ptV (0) (0), .int .i64 2]) (by simp [results, Try.results16, go_sem, *]) rfl ⟨rfl, below_put2 B (b := w.heap.size + 1 + 1) (Nat.le_succ_of_le (Nat.le_succ _)) _ _⟩
set_option maxHeartbeats 4000000 in
theorem to_d (a b c d : Int) (w : World) (h1 : org a b = true) (h2 : vd c d = true) (h3 : ¬ lz a b c d ≤ 0) (h4 : pvd (qnear (20626481 * lx b c d) (lz a b c d)) (qnear (20626481 * ly a b c d) (lz a b c d)) = false) :
    Calls Try.prog 16 #[posV a b, posV c d] w fun e w' => e = Pt3 (0, 0, 2) ∧ Below w.heap.size w w' := by
  have HL := Lib.hid (show lclv a b c d = (lx b c d, ly a b c d, lz a b c d, 0) by unfold lclv; rw [if_pos (by rw [org_vd h1, h2]; rfl)])
  have HV := Lib.hid (show pvd (qnear (20626481 * lx b c d) (lz a b c d)) (qnear (20626481 * ly a b c d) (lz a b c d)) = false from h4)
  clear h4
  obtain ⟨⟨x0b, x1b⟩, ⟨y0b, y1b⟩, z0b, z1b⟩ := lxy_b a b c d
  go_enter Try.func16, Try.ntmps16
  go_wp2_with fail
  refine (isorg_any _ _ _).mono ?_
  rintro e w1 ⟨rfl, hb⟩
  have B := thn (below_alloc3 w _ _ _) hb
  have T := (((c2_new w (.int .i64 a) (.int .i64 b) 23).alc _).alc _).next hb
  have U := ((c2_new _ (.int .i64 c) (.int .i64 d) 23).alc _).next hb
  have Z := (c2_new _ (.int .i64 0) (.int .i64 0) 25).next hb
  simp only [World.alloc, Array.size_push] at U Z
  clear hb
  obtain ⟨u0, u1, u2, u3, ul⟩ := id U
  rw [h1]
  go_wp2_with fail
  clear u0 u1 u2 u3 ul
  refine (valid_any _ _ _).mono ?_
  rintro e w2 ⟨rfl, hb⟩
  replace B := thn B hb
  replace T := T.next hb
  replace U := U.next hb
  replace Z := Z.next hb
  clear hb
  rw [h2]
  obtain ⟨t0, t1, t2, t3, tl⟩ := id T
  obtain ⟨u0, u1, u2, u3, ul⟩ := id U
  go_wp2_with fail
  clear t0 t1 t2 t3 tl
  clear u0 u1 u2 u3 ul
  refine (Local_any _ _ _ _ _).mono ?_
  rintro e w3 ⟨rfl, hb⟩
  replace B := alc (thn B hb) (.cells #[.int .i64 (lx b c d), .int .i64 (ly a b c d), .int .i64 (lz a b c d)] 44)
  replace Z := (Z.next hb).alc (.cells #[.int .i64 (lx b c d), .int .i64 (ly a b c d), .int .i64 (lz a b c d)] 44)
  have V := c3_new w3 (.int .i64 (lx b c d)) (.int .i64 (ly a b c d)) (.int .i64 (lz a b c d)) 44
  clear hb T U
  rw [HL.out]
  generalize hX : lx b c d = X at *
  generalize hY : ly a b c d = Y at *
  generalize hZ : lz a b c d = L at *
  clear hX hY hZ
  obtain ⟨v0, v1, v2, v3, v4, v5, vl⟩ := id V
  go_wp2_with fail
  generalize w3.alloc (.cells #[.int .i64 X, .int .i64 Y, .int .i64 L] 44) = x0 at *
  generalize w3.heap.size = bv at *
  refine (mdr_any _ _ _ (by omega) (by omega) (by omega) (by omega)).mono ?_
  rintro e x1 ⟨rfl, hd⟩
  have hb := hd.below x0.heap.size
  replace B := thn B hb
  replace Z := Z.next hb
  replace V := V.next hb
  clear hb hd v0 v1 v2 v3 v4 v5 vl
  obtain ⟨v0, v1, v2, v3, v4, v5, vl⟩ := id V
  go_wp2_with fail
  refine (mdr_any _ _ _ (by omega) (by omega) (by omega) (by omega)).mono ?_
  rintro e x2 ⟨rfl, hd⟩
  have hb := hd.below x1.heap.size
  replace B := thn B hb
  replace Z := Z.next hb
  clear hb hd v0 v1 v2 v3 v4 v5 vl V
  generalize qnear (20626481 * X) L = QX at *
  generalize qnear (20626481 * Y) L = QY at *
  have P := c2_new x2 (.int .i64 QX) (.int .i64 QY) 25
  replace B := alc B (.cells #[.int .i64 QX, .int .i64 QY] 25)
  replace Z := Z.alc (.cells #[.int .i64 QX, .int .i64 QY] 25)
  obtain ⟨p0, p1, p2, p3, pl⟩ := id P
  go_wp2_with fail
  clear p0 p1 p2 p3 pl
  refine (pvalid_any _ _ _).mono ?_
  rintro e y1 ⟨rfl, hb⟩
  replace B := thn B hb
  replace Z := Z.next hb
  replace P := P.next hb
  clear hb
  rw [HV.out]
  obtain ⟨p0, p1, p2, p3, pl⟩ := id P
  obtain ⟨z0, z1, z2, z3, zl⟩ := id Z
  go_wp2
  exact bodyPost_ret (v := .tuple #[ptV (0) (0), .int .i64 2]) (by simp [results, Try.results16, go_sem, *]) rfl ⟨rfl, below_put2 B (b := w.heap.size + 1 + 1) (Nat.le_succ_of_le (Nat.le_succ _)) _ _⟩
set_option maxHeartbeats 4000000 in
theorem to_e (a b c d : Int) (w : World) (h1 : org a b = true) (h2 : vd c d = true) (h3 : ¬ lz a b c d ≤ 0) (h4 : pvd (qnear (20626481 * lx b c d) (lz a b c d)) (qnear (20626481 * ly a b c d) (lz a b c d)) = true) :
    Calls Try.prog 16 #[posV a b, posV c d] w fun e w' => e = Pt3 (qnear (20626481 * lx b c d) (lz a b c d), qnear (20626481 * ly a b c d) (lz a b c d), 0) ∧ Below w.heap.size w w' := by
  have HR := Lib.hid (rfl : (qnear (20626481 * lx b c d) (lz a b c d), qnear (20626481 * ly a b c d) (lz a b c d), (0 : Int)) = (qnear (20626481 * lx b c d) (lz a b c d), qnear (20626481 * ly a b c d) (lz a b c d), 0))
  generalize hT : (qnear (20626481 * lx b c d) (lz a b c d), qnear (20626481 * ly a b c d) (lz a b c d), (0 : Int)) = R
  replace HR := Lib.hid hT
  clear hT
  have HL := Lib.hid (show lclv a b c d = (lx b c d, ly a b c d, lz a b c d, 0) by unfold lclv; rw [if_pos (by rw [org_vd h1, h2]; rfl)])
  have HV := Lib.hid (show pvd (qnear (20626481 * lx b c d) (lz a b c d)) (qnear (20626481 * ly a b c d) (lz a b c d)) = true from h4)
  clear h4
  obtain ⟨⟨x0b, x1b⟩, ⟨y0b, y1b⟩, z0b, z1b⟩ := lxy_b a b c d
  go_enter Try.func16, Try.ntmps16
  go_wp2_with fail
  refine (isorg_any _ _ _).mono ?_
  rintro e w1 ⟨rfl, hb⟩
  have B := thn (below_alloc3 w _ _ _) hb
  have T := (((c2_new w (.int .i64 a) (.int .i64 b) 23).alc _).alc _).next hb
  have U := ((c2_new _ (.int .i64 c) (.int .i64 d) 23).alc _).next hb
  have Z := (c2_new _ (.int .i64 0) (.int .i64 0) 25).next hb
  simp only [World.alloc, Array.size_push] at U Z
  clear hb
  obtain ⟨u0, u1, u2, u3, ul⟩ := id U
  rw [h1]
  go_wp2_with fail
  clear u0 u1 u2 u3 ul
  refine (valid_any _ _ _).mono ?_
  rintro e w2 ⟨rfl, hb⟩
  replace B := thn B hb
  replace T := T.next hb
  replace U := U.next hb
  replace Z := Z.next hb
  clear hb
  rw [h2]
  obtain ⟨t0, t1, t2, t3, tl⟩ := id T
  obtain ⟨u0, u1, u2, u3, ul⟩ := id U
  go_wp2_with fail
  clear t0 t1 t2 t3 tl
  clear u0 u1 u2 u3 ul
  refine (Local_any _ _ _ _ _).mono ?_
  rintro e w3 ⟨rfl, hb⟩
  replace B := alc (thn B hb) (.cells #[.int .i64 (lx b c d), .int .i64 (ly a b c d), .int .i64 (lz a b c d)] 44)
  replace Z := (Z.next hb).alc (.cells #[.int .i64 (lx b c d), .int .i64 (ly a b c d), .int .i64 (lz a b c d)] 44)
  have V := c3_new w3 (.int .i64 (lx b c d)) (.int .i64 (ly a b c d)) (.int .i64 (lz a b c d)) 44
  clear hb T U
  rw [HL.out]
  generalize hX : lx b c d = X at *
  generalize hY : ly a b c d = Y at *
  generalize hZ : lz a b c d = L at *
  clear hX hY hZ
  obtain ⟨v0, v1, v2, v3, v4, v5, vl⟩ := id V
  go_wp2_with fail
  generalize w3.alloc (.cells #[.int .i64 X, .int .i64 Y, .int .i64 L] 44) = x0 at *
  generalize w3.heap.size = bv at *
  refine (mdr_any _ _ _ (by omega) (by omega) (by omega) (by omega)).mono ?_
  rintro e x1 ⟨rfl, hd⟩
  have hb := hd.below x0.heap.size
  replace B := thn B hb
  replace Z := Z.next hb
  replace V := V.next hb
  clear hb hd v0 v1 v2 v3 v4 v5 vl
  obtain ⟨v0, v1, v2, v3, v4, v5, vl⟩ := id V
  go_wp2_with fail
  refine (mdr_any _ _ _ (by omega) (by omega) (by omega) (by omega)).mono ?_
  rintro e x2 ⟨rfl, hd⟩
  have hb := hd.below x1.heap.size
  replace B := thn B hb
  replace Z := Z.next hb
  clear hb hd v0 v1 v2 v3 v4 v5 vl V
  generalize qnear (20626481 * X) L = QX at *
  generalize qnear (20626481 * Y) L = QY at *
  have P := c2_new x2 (.int .i64 QX) (.int .i64 QY) 25
  replace B := alc B (.cells #[.int .i64 QX, .int .i64 QY] 25)
  replace Z := Z.alc (.cells #[.int .i64 QX, .int .i64 QY] 25)
  obtain ⟨p0, p1, p2, p3, pl⟩ := id P
  go_wp2_with fail
  clear p0 p1 p2 p3 pl
  refine (pvalid_any _ _ _).mono ?_
  rintro e y1 ⟨rfl, hb⟩
  replace B := thn B hb
  replace Z := Z.next hb
  replace P := P.next hb
  clear hb
  rw [HV.out]
  obtain ⟨p0, p1, p2, p3, pl⟩ := id P
  obtain ⟨z0, z1, z2, z3, zl⟩ := id Z
  go_wp2
  exact bodyPost_ret (v := .tuple #[ptV QX QY, .int .i64 0]) (by simp [results, Try.results16, go_sem, *]) rfl ⟨pt3 HR.out, below_put2 B (b := w.heap.size + 1 + 1) (Nat.le_succ_of_le (Nat.le_succ _)) _ _⟩
theorem to_any (a b c d : Int) (w : World) :
    Calls Try.prog 16 #[posV a b, posV c d] w fun e w' => e = Pt3 (tov a b c d) ∧ Below w.heap.size w w' := by
  unfold tov
  cases h1 : org a b
  · exact to_a a b c d w h1
  cases h2 : vd c d
  · exact to_b a b c d w h1 h2
  by_cases h3 : lz a b c d ≤ 0
  · rw [if_pos (show (true && true) = true from rfl), if_pos h3]
    exact to_c a b c d w h1 h2 h3
  · rw [if_pos (show (true && true) = true from rfl), if_neg h3]
    cases h4 : pvd (qnear (20626481 * lx b c d) (lz a b c d)) (qnear (20626481 * ly a b c d) (lz a b c d))
    · exact to_d a b c d w h1 h2 h3 h4
    · exact to_e a b c d w h1 h2 h3 h4
end Go.Proofs.Ytmlacekgmdlfjaa
