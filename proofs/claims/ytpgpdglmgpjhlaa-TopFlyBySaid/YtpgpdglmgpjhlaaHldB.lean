/- Lengths of lines and of arcs: both sides. -/
import Derived.Test.YtpgpdglmgpjhlaaHldA
import Derived.Test.YtpgpdglmgpjhlaaCelB
import Derived.Test.YtpgpdglmgpjhlaaTrigY
import Derived.Test.YtpgpdglmgpjhlaaSqrt
import Derived.LoopN
namespace Go.Proofs.Ytpgpdglmgpjhlaa
open Go.RowKit Go.Joins Fdk
set_option linter.unusedVariables false
abbrev arcV (x y r f s : Int) : Value := .agg #[.int .i64 x, .int .i64 y, .int .i64 r, .int .i64 f, .int .i64 s]
def avd (x y r f s : Int) : Bool := pvd x y && (decide (1 ≤ r) && (decide (r ≤ 8000000) && (decide (0 ≤ f) && (decide (f < 129600000) && (decide (-129600000 ≤ s) && decide (s ≤ 129600000))))))
def alen (x y r f s : Int) : Int := if avd x y r f s then qnear (r * iabs s) 20626481 else 0
def sqd (a b c d : Int) : Int := (c - a) * (c - a) + (d - b) * (d - b)
def dst2 (a b c d : Int) : Int := if pvd a b && pvd c d then isq (sqd a b c d) else 0
theorem ret_i64h {x y : Int} (h : x = y) : Ending.returned (.int .i64 x) = .returned (.int .i64 y) := by rw [h]
theorem quiet_drew {P : Program} {f : FuncId} {args : Array Value} {w : World} {n : Nat} {v : Value}
    (h : Calls P f args (w.drewN n) fun e w' => e = .returned v ∧ Drew (w.drewN n) w') : Calls P f args (w.drewN n) fun e w'' => e = .returned v ∧ ∃ m, w'' = w.drewN m :=
  h.mono fun _ _ ⟨he, q, hq⟩ => ⟨he, n + q, hq.trans (World.drewN_drewN _ _ _)⟩
theorem avd_cases (x y r f s : Int) : ((pvd x y = false) ∧ Hid (avd x y r f s = false)) ∨ ((pvd x y = true) ∧ (¬ r ≥ 1) ∧ Hid (avd x y r f s = false)) ∨ ((pvd x y = true) ∧ (r ≥ 1) ∧ (¬ r ≤ 8000000) ∧ Hid (avd x y r f s = false)) ∨ ((pvd x y = true) ∧ (r ≥ 1) ∧ (r ≤ 8000000) ∧ (¬ f ≥ 0) ∧ Hid (avd x y r f s = false)) ∨ ((pvd x y = true) ∧ (r ≥ 1) ∧ (r ≤ 8000000) ∧ (f ≥ 0) ∧ (¬ f < 129600000) ∧ Hid (avd x y r f s = false)) ∨ ((pvd x y = true) ∧ (r ≥ 1) ∧ (r ≤ 8000000) ∧ (f ≥ 0) ∧ (f < 129600000) ∧ (¬ s ≥ -129600000) ∧ Hid (avd x y r f s = false)) ∨ ((pvd x y = true) ∧ (r ≥ 1) ∧ (r ≤ 8000000) ∧ (f ≥ 0) ∧ (f < 129600000) ∧ (s ≥ -129600000) ∧ (¬ s ≤ 129600000) ∧ Hid (avd x y r f s = false)) ∨ ((pvd x y = true) ∧ (r ≥ 1) ∧ (r ≤ 8000000) ∧ (f ≥ 0) ∧ (f < 129600000) ∧ (s ≥ -129600000) ∧ (s ≤ 129600000) ∧ Hid (avd x y r f s = true)) := by
  cases h0 : pvd x y
  · exact .inl ⟨rfl, Lib.hid (by simp [avd, h0])⟩
  by_cases h1 : r ≥ 1
  rotate_left
  · exact .inr (.inl ⟨rfl, h1, Lib.hid (by simp only [avd, h0, Bool.true_and, Bool.and_eq_false_iff, decide_eq_false_iff_not]; omega)⟩)
  by_cases h2 : r ≤ 8000000
  rotate_left
  · exact .inr (.inr (.inl ⟨rfl, h1, h2, Lib.hid (by simp only [avd, h0, Bool.true_and, Bool.and_eq_false_iff, decide_eq_false_iff_not]; omega)⟩))
  by_cases h3 : f ≥ 0
  rotate_left
  · exact .inr (.inr (.inr (.inl ⟨rfl, h1, h2, h3, Lib.hid (by simp only [avd, h0, Bool.true_and, Bool.and_eq_false_iff, decide_eq_false_iff_not]; omega)⟩)))
  by_cases h4 : f < 129600000
  rotate_left
  · exact .inr (.inr (.inr (.inr (.inl ⟨rfl, h1, h2, h3, h4, Lib.hid (by simp only [avd, h0, Bool.true_and, Bool.and_eq_false_iff, decide_eq_false_iff_not]; omega)⟩))))
  by_cases h5 : s ≥ -129600000
  rotate_left
  · exact .inr (.inr (.inr (.inr (.inr (.inl ⟨rfl, h1, h2, h3, h4, h5, Lib.hid (by simp only [avd, h0, Bool.true_and, Bool.and_eq_false_iff, decide_eq_false_iff_not]; omega)⟩)))))
  by_cases h6 : s ≤ 129600000
  rotate_left
  · exact .inr (.inr (.inr (.inr (.inr (.inr (.inl ⟨rfl, h1, h2, h3, h4, h5, h6, Lib.hid (by simp only [avd, h0, Bool.true_and, Bool.and_eq_false_iff, decide_eq_false_iff_not]; omega)⟩))))))
  exact .inr (.inr (.inr (.inr (.inr (.inr (.inr (⟨rfl, h1, h2, h3, h4, h5, h6, Lib.hid (by simp only [avd, h0, Bool.true_and, Bool.and_eq_true, decide_eq_true_eq]; omega)⟩)))))))
set_option maxRecDepth 4000 in
set_option maxHeartbeats 8000000 in
theorem avalid_any (x y r f s : Int) (w : World) :
    Calls Try.prog 28 #[arcV x y r f s] w fun e w' => e = .returned (.bool (avd x y r f s)) ∧ Below w.heap.size w w' := by
  rcases avd_cases x y r f s with ⟨h0, hh⟩ | ⟨h0, h1, hh⟩ | ⟨h0, h1, h2, hh⟩ | ⟨h0, h1, h2, h3, hh⟩ | ⟨h0, h1, h2, h3, h4, hh⟩ | ⟨h0, h1, h2, h3, h4, h5, hh⟩ | ⟨h0, h1, h2, h3, h4, h5, h6, hh⟩ | ⟨h0, h1, h2, h3, h4, h5, h6, hh⟩
  all_goals
    have H0 := Lib.hid h0
    clear h0
    go_enter Try.func28, Try.ntmps28
    go_wp2_with fail
    have B := below_alloc1 w (.cells #[.int .i64 x, .int .i64 y, .int .i64 r, .int .i64 f, .int .i64 s] 30)
    have T := c5_new w (.int .i64 x) (.int .i64 y) (.int .i64 r) (.int .i64 f) (.int .i64 s) 30
    refine (pvalid_any _ _ _).mono ?_
    rintro e w1 ⟨rfl, hb⟩
    rw [H0.out]
    replace B := thn B hb
    replace T := T.next hb
    clear hb
    obtain ⟨t0, t1, t2, t3, t4, t5, t6, t7, t8, t9, tl⟩ := id T
    go_wp2
    go_ret
    first | exact ⟨ret_b hh.out.symm, B⟩ | exact ⟨ret_b ((decide_eq_false (by omega)).trans hh.out.symm), B⟩
theorem avd_of {x y r f s : Int} (h : avd x y r f s = true) : pvd x y = true ∧ (1 ≤ r ∧ r ≤ 8000000) ∧ (0 ≤ f ∧ f < 129600000) ∧ -129600000 ≤ s ∧ s ≤ 129600000 := by
  simp only [avd, Bool.and_eq_true, decide_eq_true_eq] at h
  exact ⟨h.1, ⟨h.2.1, h.2.2.1⟩, ⟨h.2.2.2.1, h.2.2.2.2.1⟩, h.2.2.2.2.2.1, h.2.2.2.2.2.2⟩
theorem iabs_bh {s : Int} (h0 : -129600000 ≤ s) (h1 : s ≤ 129600000) : 0 ≤ iabs s ∧ iabs s ≤ 129600000 := by unfold iabs; split <;> omega
set_option maxHeartbeats 4000000 in
theorem alen_a (x y r f s : Int) (w : World) (h : avd x y r f s = false) :
    Calls Try.prog 9 #[arcV x y r f s] w fun e w' => e = .returned (.int .i64 0) ∧ Below w.heap.size w w' := by
  have HV := Lib.hid h
  clear h
  go_enter Try.func9, Try.ntmps9
  go_wp2_with fail
  have B := below_alloc1 w (.cells #[.int .i64 x, .int .i64 y, .int .i64 r, .int .i64 f, .int .i64 s] 30)
  have T := c5_new w (.int .i64 x) (.int .i64 y) (.int .i64 r) (.int .i64 f) (.int .i64 s) 30
  refine (avalid_any _ _ _ _ _ _).mono ?_
  rintro e w1 ⟨rfl, hb⟩
  rw [HV.out]
  replace B := thn B hb
  replace T := T.next hb
  clear hb
  go_wp2
  go_ret
  exact ⟨rfl, B⟩
set_option maxHeartbeats 4000000 in
theorem alen_b (x y r f s : Int) (w : World) (h : avd x y r f s = true) :
    Calls Try.prog 9 #[arcV x y r f s] w fun e w' => e = .returned (.int .i64 (qnear (r * iabs s) 20626481)) ∧ Below w.heap.size w w' := by
  obtain ⟨_, ⟨r0, r1⟩, _, s0, s1⟩ := avd_of h
  have HV := Lib.hid h
  clear h
  have hs := iabs_bh s0 s1
  have m := pb (p := r) (q := iabs s) (A := 8000000) (B := 129600000) 1036800000000000 (by omega) (by omega) (by omega) (by decide)
  have e0 : IntKind.i64.wrap (r * iabs s) = r * iabs s := IntWalk.i64_in _ (by omega)
  have HA := Lib.hid (fun w => abs_any s w (by omega) (by omega))
  have HF := Lib.hid (fun w => fround_any (r * iabs s) 20626481 w (by omega) (by omega) (by omega) (by omega))
  generalize iabs s = S at *
  generalize qnear (r * S) 20626481 = N at *
  go_enter Try.func9, Try.ntmps9
  go_wp2_with fail
  have B := below_alloc1 w (.cells #[.int .i64 x, .int .i64 y, .int .i64 r, .int .i64 f, .int .i64 s] 30)
  have T := c5_new w (.int .i64 x) (.int .i64 y) (.int .i64 r) (.int .i64 f) (.int .i64 s) 30
  refine (avalid_any _ _ _ _ _ _).mono ?_
  rintro e w1 ⟨rfl, hb⟩
  rw [HV.out]
  replace B := thn B hb
  replace T := T.next hb
  clear hb
  obtain ⟨t0, t1, t2, t3, t4, t5, t6, t7, t8, t9, tl⟩ := id T
  go_wp2_with fail
  go_quiet (first | (go_at_call 16; exact quiet_same (HA.out _)) | (go_at_call 29; exact quiet_drew (HF.out _)))
  clear t0 t1 t2 t3 t4 t5 t6 t7 t8 t9 tl
  replace B := thn B (below_draws _ w1 nq)
  go_wp2
  go_ret
  exact ⟨rfl, B⟩
theorem alen_any (x y r f s : Int) (w : World) :
    Calls Try.prog 9 #[arcV x y r f s] w fun e w' => e = .returned (.int .i64 (alen x y r f s)) ∧ Below w.heap.size w w' := by
  unfold alen
  cases h : avd x y r f s
  · exact alen_a x y r f s w h
  · exact alen_b x y r f s w h
end Go.Proofs.Ytpgpdglmgpjhlaa
