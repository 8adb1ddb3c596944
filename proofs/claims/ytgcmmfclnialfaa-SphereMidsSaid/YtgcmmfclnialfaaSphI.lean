/- Package sphere: Course. -/
import Derived.Test.YtgcmmfclnialfaaSphG
import Derived.Test.YtgcmmfclnialfaaSphH
namespace Go.Proofs.Ytgcmmfclnialfaa
open Go.RowKit Go.Joins Fdk
set_option linter.unusedVariables false
/-- the initial course, and the error. -/
def crs (a b c d : Int) : Int × Int := if (dstv a b c d).2 = 0 then (if (dstv a b c d).1 < 600 ∨ (dstv a b c d).1 > 64799400 then (0, 10) else ((a2 (lx b c d) (ly a b c d)).1, 0)) else (0, (dstv a b c d).2)
theorem crs_cases (a b c d : Int) : ((dstv a b c d = (0, 1)) ∧ Hid (crs a b c d = (0, 1))) ∨ (∃ v, dstv a b c d = (v, 0) ∧ ((v < 600 ∧ Hid (crs a b c d = (0, 10))) ∨ ((¬ v < 600) ∧ v > 64799400 ∧ Hid (crs a b c d = (0, 10))) ∨ ((¬ v < 600) ∧ (¬ v > 64799400) ∧ Hid (crs a b c d = ((a2 (lx b c d) (ly a b c d)).1, 0))))) := by
  have hd : dstv a b c d = (0, 1) ∨ ∃ v, dstv a b c d = (v, 0) := by
    unfold dstv; split
    · exact .inr ⟨_, rfl⟩
    · exact .inl rfl
  rcases hd with h | ⟨v, h⟩
  · exact .inl ⟨h, Lib.hid (by unfold crs; rw [h, if_neg (by decide)])⟩
  · refine .inr ⟨v, h, ?_⟩
    by_cases h1 : v < 600
    · exact .inl ⟨h1, Lib.hid (by unfold crs; rw [h, if_pos rfl, if_pos (.inl h1)])⟩
    · by_cases h2 : v > 64799400
      · exact .inr (.inl ⟨h1, h2, Lib.hid (by unfold crs; rw [h, if_pos rfl, if_pos (.inr h2)])⟩)
      · exact .inr (.inr ⟨h1, h2, Lib.hid (by unfold crs; rw [h, if_pos rfl, if_neg (by omega)])⟩)
set_option maxHeartbeats 1600000 in
theorem course_any (a b c d : Int) (w : World) :
    Calls Try.prog 24 #[posV a b, posV c d] w fun e w' => e = TwoInts (crs a b c d).1 (crs a b c d).2 ∧ Below w.heap.size w w' := by
  rcases crs_cases a b c d with ⟨hd, hh⟩ | ⟨v, hd, ⟨h1, hh⟩ | ⟨h1, h2, hh⟩ | ⟨h1, h2, hh⟩⟩
  · have HD := Lib.hid hd
    clear hd
    go_enter Try.func24, Try.ntmps24
    go_wp2_with fail
    refine (dist_any _ _ _ _ _).mono ?_
    rintro e w1 ⟨rfl, hb⟩
    have B := thn (below_alloc2 w _ _) hb
    rw [HD.out]
    go_wp2
    go_ret2
    exact ⟨by rw [hh.out]; rfl, B⟩
  · have HD := Lib.hid hd
    clear hd
    go_enter Try.func24, Try.ntmps24
    go_wp2_with fail
    refine (dist_any _ _ _ _ _).mono ?_
    rintro e w1 ⟨rfl, hb⟩
    have B := thn (below_alloc2 w _ _) hb
    rw [HD.out]
    go_wp2
    go_ret2
    exact ⟨by rw [hh.out]; rfl, B⟩
  · have HD := Lib.hid hd
    clear hd
    go_enter Try.func24, Try.ntmps24
    go_wp2_with fail
    refine (dist_any _ _ _ _ _).mono ?_
    rintro e w1 ⟨rfl, hb⟩
    have B := thn (below_alloc2 w _ _) hb
    rw [HD.out]
    go_wp2
    go_ret2
    exact ⟨by rw [hh.out]; rfl, B⟩
  · have HD := Lib.hid hd
    clear hd
    go_enter Try.func24, Try.ntmps24
    go_wp2_with fail
    refine (dist_any _ _ _ _ _).mono ?_
    rintro e w1 ⟨rfl, hb⟩
    have B := thn (below_alloc2 w _ _) hb
    have T := ((c2_new w (.int .i64 a) (.int .i64 b) 23).alc _).next hb
    have U := (c2_new _ (.int .i64 c) (.int .i64 d) 23).next hb
    simp only [World.alloc, Array.size_push] at U
    obtain ⟨d0, d1, j0, j1, l1⟩ := id U
    obtain ⟨t0, t1, t2, t3, tl⟩ := id T
    rw [HD.out]
    go_wp2_with fail
    refine (local_any _ _ _ _ _).mono ?_
    rintro e w2 ⟨rfl, hb2⟩
    replace B := thn B hb2
    clear d0 d1 j0 j1 l1 t0 t1 t2 t3 tl T U
    have V := c3_new w2 (.int .i64 (lx b c d)) (.int .i64 (ly a b c d)) (.int .i64 (lz a b c d)) 26
    go_wp2_with fail
    refine (a2_any _ _ _).mono ?_
    rintro e w3 ⟨rfl, hb3⟩
    replace B := thn (alc B _) hb3
    go_wp2
    go_ret2
    exact ⟨by rw [hh.out]; rfl, B⟩
end Go.Proofs.Ytgcmmfclnialfaa
