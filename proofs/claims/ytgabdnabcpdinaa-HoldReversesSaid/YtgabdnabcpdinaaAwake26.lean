/- The examples of the chapter. -/
import Derived.Test.YtgabdnabcpdinaaHldX
import Derived.Test.YtgabdnabcpdinaaHldN
namespace Go.Proofs.Ytgabdnabcpdinaa
open Go.RowKit Go.Joins Fdk
set_option linter.unusedVariables false
theorem he_0 : hent 0 0 2 = 1 := by decide
theorem he_1 : hent 32400000 0 2 = 1 := by decide
theorem he_2 : hent 43200000 0 2 = 3 := by decide
theorem he_3 : hent 68400000 0 2 = 2 := by decide
theorem he_4 : hent 104400000 0 2 = 2 := by decide
theorem he_5 : hent 108000000 0 2 = 1 := by decide
theorem ex_her : her 0 0 0 2 30000 6000 = 0 := by decide +kernel
theorem ex_sh : shOf 0 0 0 2 30000 6000 = ⟨0, 0, 12000, 0, 12000, -30000, 0, -30000, 6000, 0, 6000, -30000, 32400000, 64800000⟩ := by
  unfold shOf
  rw [show rayv 0 0 (hu 0 2) (2 * 6000) = (12000, 0, 0) by decide +kernel, show rayv 0 0 (0 + 64800000) 30000 = (0, -30000, 0) by decide +kernel, show rayv 0 0 (hu 0 2) 6000 = (6000, 0, 0) by decide +kernel]
  rfl
theorem ex_len : alen 6000 0 6000 ((32400000 + 64800000) % 129600000) 64800000 = 18850 := by decide +kernel
set_option maxRecDepth 8000 in
set_option maxHeartbeats 16000000 in
theorem awake_any (w : World) : Calls Try.prog 10 #[] w fun e w' => e = .returned (.bool true) ∧ Below w.heap.size w w' := by
  have HP := Lib.hid (fun w => ph_ok 0 0 0 2 30000 6000 w ex_her)
  go_enter Try.func10, Try.ntmps10
  go_wp2_with fail
  have B := below_alloc1 w (.cells #[.int .i64 0, .int .u8 1, .int .i64 90, .int .u8 1, .int .i64 120, .int .u8 3, .int .i64 190, .int .u8 2, .int .i64 290, .int .u8 2, .int .i64 300, .int .u8 1] 46)
  have e : (w.alloc (.cells #[.int .i64 0, .int .u8 1, .int .i64 90, .int .u8 1, .int .i64 120, .int .u8 3, .int .i64 190, .int .u8 2, .int .i64 290, .int .u8 2, .int .i64 300, .int .u8 1] 46)).heap[w.heap.size]? = some (.cells #[.int .i64 0, .int .u8 1, .int .i64 90, .int .u8 1, .int .i64 120, .int .u8 3, .int .i64 190, .int .u8 2, .int .i64 290, .int .u8 2, .int .i64 300, .int .u8 1] 46) := by show (w.heap.push _)[w.heap.size]? = _; simp
  have L0 : ∀ w', Below (w.alloc (.cells #[.int .i64 0, .int .u8 1, .int .i64 90, .int .u8 1, .int .i64 120, .int .u8 3, .int .i64 190, .int .u8 2, .int .i64 290, .int .u8 2, .int .i64 300, .int .u8 1] 46)).heap.size (w.alloc (.cells #[.int .i64 0, .int .u8 1, .int .i64 90, .int .u8 1, .int .i64 120, .int .u8 3, .int .i64 190, .int .u8 2, .int .i64 290, .int .u8 2, .int .i64 300, .int .u8 1] 46)) w' → w'.cell? ⟨w.heap.size, 0, none⟩ = some (.int .i64 0) := fun _ h => (h.cell (p := ⟨w.heap.size, 0, none⟩) (by simp)).trans (by simp only [World.cell?, e]; rfl)
  have L1 : ∀ w', Below (w.alloc (.cells #[.int .i64 0, .int .u8 1, .int .i64 90, .int .u8 1, .int .i64 120, .int .u8 3, .int .i64 190, .int .u8 2, .int .i64 290, .int .u8 2, .int .i64 300, .int .u8 1] 46)).heap.size (w.alloc (.cells #[.int .i64 0, .int .u8 1, .int .i64 90, .int .u8 1, .int .i64 120, .int .u8 3, .int .i64 190, .int .u8 2, .int .i64 290, .int .u8 2, .int .i64 300, .int .u8 1] 46)) w' → w'.cell? ⟨w.heap.size, 1, none⟩ = some (.int .u8 1) := fun _ h => (h.cell (p := ⟨w.heap.size, 1, none⟩) (by simp)).trans (by simp only [World.cell?, e]; rfl)
  have L2 : ∀ w', Below (w.alloc (.cells #[.int .i64 0, .int .u8 1, .int .i64 90, .int .u8 1, .int .i64 120, .int .u8 3, .int .i64 190, .int .u8 2, .int .i64 290, .int .u8 2, .int .i64 300, .int .u8 1] 46)).heap.size (w.alloc (.cells #[.int .i64 0, .int .u8 1, .int .i64 90, .int .u8 1, .int .i64 120, .int .u8 3, .int .i64 190, .int .u8 2, .int .i64 290, .int .u8 2, .int .i64 300, .int .u8 1] 46)) w' → w'.cell? ⟨w.heap.size, 2, none⟩ = some (.int .i64 90) := fun _ h => (h.cell (p := ⟨w.heap.size, 2, none⟩) (by simp)).trans (by simp only [World.cell?, e]; rfl)
  have L3 : ∀ w', Below (w.alloc (.cells #[.int .i64 0, .int .u8 1, .int .i64 90, .int .u8 1, .int .i64 120, .int .u8 3, .int .i64 190, .int .u8 2, .int .i64 290, .int .u8 2, .int .i64 300, .int .u8 1] 46)).heap.size (w.alloc (.cells #[.int .i64 0, .int .u8 1, .int .i64 90, .int .u8 1, .int .i64 120, .int .u8 3, .int .i64 190, .int .u8 2, .int .i64 290, .int .u8 2, .int .i64 300, .int .u8 1] 46)) w' → w'.cell? ⟨w.heap.size, 3, none⟩ = some (.int .u8 1) := fun _ h => (h.cell (p := ⟨w.heap.size, 3, none⟩) (by simp)).trans (by simp only [World.cell?, e]; rfl)
  have L4 : ∀ w', Below (w.alloc (.cells #[.int .i64 0, .int .u8 1, .int .i64 90, .int .u8 1, .int .i64 120, .int .u8 3, .int .i64 190, .int .u8 2, .int .i64 290, .int .u8 2, .int .i64 300, .int .u8 1] 46)).heap.size (w.alloc (.cells #[.int .i64 0, .int .u8 1, .int .i64 90, .int .u8 1, .int .i64 120, .int .u8 3, .int .i64 190, .int .u8 2, .int .i64 290, .int .u8 2, .int .i64 300, .int .u8 1] 46)) w' → w'.cell? ⟨w.heap.size, 4, none⟩ = some (.int .i64 120) := fun _ h => (h.cell (p := ⟨w.heap.size, 4, none⟩) (by simp)).trans (by simp only [World.cell?, e]; rfl)
  have L5 : ∀ w', Below (w.alloc (.cells #[.int .i64 0, .int .u8 1, .int .i64 90, .int .u8 1, .int .i64 120, .int .u8 3, .int .i64 190, .int .u8 2, .int .i64 290, .int .u8 2, .int .i64 300, .int .u8 1] 46)).heap.size (w.alloc (.cells #[.int .i64 0, .int .u8 1, .int .i64 90, .int .u8 1, .int .i64 120, .int .u8 3, .int .i64 190, .int .u8 2, .int .i64 290, .int .u8 2, .int .i64 300, .int .u8 1] 46)) w' → w'.cell? ⟨w.heap.size, 5, none⟩ = some (.int .u8 3) := fun _ h => (h.cell (p := ⟨w.heap.size, 5, none⟩) (by simp)).trans (by simp only [World.cell?, e]; rfl)
  have L6 : ∀ w', Below (w.alloc (.cells #[.int .i64 0, .int .u8 1, .int .i64 90, .int .u8 1, .int .i64 120, .int .u8 3, .int .i64 190, .int .u8 2, .int .i64 290, .int .u8 2, .int .i64 300, .int .u8 1] 46)).heap.size (w.alloc (.cells #[.int .i64 0, .int .u8 1, .int .i64 90, .int .u8 1, .int .i64 120, .int .u8 3, .int .i64 190, .int .u8 2, .int .i64 290, .int .u8 2, .int .i64 300, .int .u8 1] 46)) w' → w'.cell? ⟨w.heap.size, 6, none⟩ = some (.int .i64 190) := fun _ h => (h.cell (p := ⟨w.heap.size, 6, none⟩) (by simp)).trans (by simp only [World.cell?, e]; rfl)
  have L7 : ∀ w', Below (w.alloc (.cells #[.int .i64 0, .int .u8 1, .int .i64 90, .int .u8 1, .int .i64 120, .int .u8 3, .int .i64 190, .int .u8 2, .int .i64 290, .int .u8 2, .int .i64 300, .int .u8 1] 46)).heap.size (w.alloc (.cells #[.int .i64 0, .int .u8 1, .int .i64 90, .int .u8 1, .int .i64 120, .int .u8 3, .int .i64 190, .int .u8 2, .int .i64 290, .int .u8 2, .int .i64 300, .int .u8 1] 46)) w' → w'.cell? ⟨w.heap.size, 7, none⟩ = some (.int .u8 2) := fun _ h => (h.cell (p := ⟨w.heap.size, 7, none⟩) (by simp)).trans (by simp only [World.cell?, e]; rfl)
  have L8 : ∀ w', Below (w.alloc (.cells #[.int .i64 0, .int .u8 1, .int .i64 90, .int .u8 1, .int .i64 120, .int .u8 3, .int .i64 190, .int .u8 2, .int .i64 290, .int .u8 2, .int .i64 300, .int .u8 1] 46)).heap.size (w.alloc (.cells #[.int .i64 0, .int .u8 1, .int .i64 90, .int .u8 1, .int .i64 120, .int .u8 3, .int .i64 190, .int .u8 2, .int .i64 290, .int .u8 2, .int .i64 300, .int .u8 1] 46)) w' → w'.cell? ⟨w.heap.size, 8, none⟩ = some (.int .i64 290) := fun _ h => (h.cell (p := ⟨w.heap.size, 8, none⟩) (by simp)).trans (by simp only [World.cell?, e]; rfl)
  have L9 : ∀ w', Below (w.alloc (.cells #[.int .i64 0, .int .u8 1, .int .i64 90, .int .u8 1, .int .i64 120, .int .u8 3, .int .i64 190, .int .u8 2, .int .i64 290, .int .u8 2, .int .i64 300, .int .u8 1] 46)).heap.size (w.alloc (.cells #[.int .i64 0, .int .u8 1, .int .i64 90, .int .u8 1, .int .i64 120, .int .u8 3, .int .i64 190, .int .u8 2, .int .i64 290, .int .u8 2, .int .i64 300, .int .u8 1] 46)) w' → w'.cell? ⟨w.heap.size, 9, none⟩ = some (.int .u8 2) := fun _ h => (h.cell (p := ⟨w.heap.size, 9, none⟩) (by simp)).trans (by simp only [World.cell?, e]; rfl)
  have L10 : ∀ w', Below (w.alloc (.cells #[.int .i64 0, .int .u8 1, .int .i64 90, .int .u8 1, .int .i64 120, .int .u8 3, .int .i64 190, .int .u8 2, .int .i64 290, .int .u8 2, .int .i64 300, .int .u8 1] 46)).heap.size (w.alloc (.cells #[.int .i64 0, .int .u8 1, .int .i64 90, .int .u8 1, .int .i64 120, .int .u8 3, .int .i64 190, .int .u8 2, .int .i64 290, .int .u8 2, .int .i64 300, .int .u8 1] 46)) w' → w'.cell? ⟨w.heap.size, 10, none⟩ = some (.int .i64 300) := fun _ h => (h.cell (p := ⟨w.heap.size, 10, none⟩) (by simp)).trans (by simp only [World.cell?, e]; rfl)
  have L11 : ∀ w', Below (w.alloc (.cells #[.int .i64 0, .int .u8 1, .int .i64 90, .int .u8 1, .int .i64 120, .int .u8 3, .int .i64 190, .int .u8 2, .int .i64 290, .int .u8 2, .int .i64 300, .int .u8 1] 46)).heap.size (w.alloc (.cells #[.int .i64 0, .int .u8 1, .int .i64 90, .int .u8 1, .int .i64 120, .int .u8 3, .int .i64 190, .int .u8 2, .int .i64 290, .int .u8 2, .int .i64 300, .int .u8 1] 46)) w' → w'.cell? ⟨w.heap.size, 11, none⟩ = some (.int .u8 1) := fun _ h => (h.cell (p := ⟨w.heap.size, 11, none⟩) (by simp)).trans (by simp only [World.cell?, e]; rfl)
  clear e
  generalize w.alloc (.cells #[.int .i64 0, .int .u8 1, .int .i64 90, .int .u8 1, .int .i64 120, .int .u8 3, .int .i64 190, .int .u8 2, .int .i64 290, .int .u8 2, .int .i64 300, .int .u8 1] 46) = u0 at *
  have HB := Lib.hid B
  clear B
  have U0 : Below u0.heap.size u0 u0 := Below.refl _ _
  refine wp_loop_rounds 7 ?_
  have HE0 := Lib.hid (fun w => hentry_any 0 0 2 w)
  rw [he_0] at HE0
  have s0 := L0 _ U0
  have s1 := L1 _ U0
  rw [rounds_succ]
  go_wp2_with fail
  clear s0 s1
  have D := c2_new u0 (.int .i64 0) (.int .u8 1) 46
  have V0 := alc U0 (.cells #[.int .i64 0, .int .u8 1] 46)
  generalize u0.alloc (.cells #[.int .i64 0, .int .u8 1] 46) = v at *
  obtain ⟨d0, d1, d2, d3, dl⟩ := D
  go_quiet (first | (go_at_call 11; exact quiet_same (HE0.out _)))
  have U1 := thn V0 (below_draws _ v nq)
  clear d0 d1 d2 d3 dl V0
  go_wp2_with fail
  generalize v.drewN nq = u1 at *
  clear nq v
  have HE1 := Lib.hid (fun w => hentry_any 32400000 0 2 w)
  rw [he_1] at HE1
  have s0 := L2 _ U1
  have s1 := L3 _ U1
  rw [rounds_succ]
  go_wp2_with fail
  clear s0 s1
  have D := c2_new u1 (.int .i64 90) (.int .u8 1) 46
  have V1 := alc U1 (.cells #[.int .i64 90, .int .u8 1] 46)
  generalize u1.alloc (.cells #[.int .i64 90, .int .u8 1] 46) = v at *
  obtain ⟨d0, d1, d2, d3, dl⟩ := D
  go_quiet (first | (go_at_call 11; exact quiet_same (HE1.out _)))
  have U2 := thn V1 (below_draws _ v nq)
  clear d0 d1 d2 d3 dl V1
  go_wp2_with fail
  generalize v.drewN nq = u2 at *
  clear nq v
  have HE2 := Lib.hid (fun w => hentry_any 43200000 0 2 w)
  rw [he_2] at HE2
  have s0 := L4 _ U2
  have s1 := L5 _ U2
  rw [rounds_succ]
  go_wp2_with fail
  clear s0 s1
  have D := c2_new u2 (.int .i64 120) (.int .u8 3) 46
  have V2 := alc U2 (.cells #[.int .i64 120, .int .u8 3] 46)
  generalize u2.alloc (.cells #[.int .i64 120, .int .u8 3] 46) = v at *
  obtain ⟨d0, d1, d2, d3, dl⟩ := D
  go_quiet (first | (go_at_call 11; exact quiet_same (HE2.out _)))
  have U3 := thn V2 (below_draws _ v nq)
  clear d0 d1 d2 d3 dl V2
  go_wp2_with fail
  generalize v.drewN nq = u3 at *
  clear nq v
  have HE3 := Lib.hid (fun w => hentry_any 68400000 0 2 w)
  rw [he_3] at HE3
  have s0 := L6 _ U3
  have s1 := L7 _ U3
  rw [rounds_succ]
  go_wp2_with fail
  clear s0 s1
  have D := c2_new u3 (.int .i64 190) (.int .u8 2) 46
  have V3 := alc U3 (.cells #[.int .i64 190, .int .u8 2] 46)
  generalize u3.alloc (.cells #[.int .i64 190, .int .u8 2] 46) = v at *
  obtain ⟨d0, d1, d2, d3, dl⟩ := D
  go_quiet (first | (go_at_call 11; exact quiet_same (HE3.out _)))
  have U4 := thn V3 (below_draws _ v nq)
  clear d0 d1 d2 d3 dl V3
  go_wp2_with fail
  generalize v.drewN nq = u4 at *
  clear nq v
  have HE4 := Lib.hid (fun w => hentry_any 104400000 0 2 w)
  rw [he_4] at HE4
  have s0 := L8 _ U4
  have s1 := L9 _ U4
  rw [rounds_succ]
  go_wp2_with fail
  clear s0 s1
  have D := c2_new u4 (.int .i64 290) (.int .u8 2) 46
  have V4 := alc U4 (.cells #[.int .i64 290, .int .u8 2] 46)
  generalize u4.alloc (.cells #[.int .i64 290, .int .u8 2] 46) = v at *
  obtain ⟨d0, d1, d2, d3, dl⟩ := D
  go_quiet (first | (go_at_call 11; exact quiet_same (HE4.out _)))
  have U5 := thn V4 (below_draws _ v nq)
  clear d0 d1 d2 d3 dl V4
  go_wp2_with fail
  generalize v.drewN nq = u5 at *
  clear nq v
  have HE5 := Lib.hid (fun w => hentry_any 108000000 0 2 w)
  rw [he_5] at HE5
  have s0 := L10 _ U5
  have s1 := L11 _ U5
  rw [rounds_succ]
  go_wp2_with fail
  clear s0 s1
  have D := c2_new u5 (.int .i64 300) (.int .u8 1) 46
  have V5 := alc U5 (.cells #[.int .i64 300, .int .u8 1] 46)
  generalize u5.alloc (.cells #[.int .i64 300, .int .u8 1] 46) = v at *
  obtain ⟨d0, d1, d2, d3, dl⟩ := D
  go_quiet (first | (go_at_call 11; exact quiet_same (HE5.out _)))
  have U6 := thn V5 (below_draws _ v nq)
  clear d0 d1 d2 d3 dl V5
  go_wp2_with fail
  generalize v.drewN nq = u6 at *
  clear nq v
  rw [rounds_succ]
  go_wp2_with fail
  refine (HP.out _).mono ?_
  rintro e w1 ⟨⟨bb, hbb, rfl, A⟩, hb⟩
  rw [ex_sh] at A
  have m1_ : w1.cell? ⟨bb, 14, none⟩ = some (.int .i64 12000) := (A.at_ 1 (by omega)).c1
  have m2_ : w1.cell? ⟨bb, 15, none⟩ = some (.int .i64 0) := (A.at_ 1 (by omega)).c2
  have m3_ : w1.cell? ⟨bb, 16, none⟩ = some (.int .i64 12000) := (A.at_ 1 (by omega)).c3
  have m4_ : w1.cell? ⟨bb, 17, none⟩ = some (.int .i64 (-30000)) := (A.at_ 1 (by omega)).c4
  have m5_ : w1.cell? ⟨bb, 40, none⟩ = some (.int .i64 0) := (A.at_ 3 (by omega)).c1
  have m6_ : w1.cell? ⟨bb, 41, none⟩ = some (.int .i64 (-30000)) := (A.at_ 3 (by omega)).c2
  have m7_ : w1.cell? ⟨bb, 10, none⟩ = some (.int .i64 18850) := by rw [← ex_len]; exact (A.at_ 0 (by omega)).c10
  have B := Lib.hid (thn (thn HB.out U6) hb)
  clear A hbb hb L0 L1 L2 L3 L4 L5 L6 L7 L8 L9 L10 L11 U0 U1 U2 U3 U4 U5 U6
  go_wp2_with fail
  go_ret
  exact ⟨rfl, B.out⟩

end Go.Proofs.Ytgabdnabcpdinaa
