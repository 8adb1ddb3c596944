/- The laws of chapter 45: a point in both boxes is in the merged box, which is valid and no wider than either. -/
import Derived.Test.YtfeoladkpgojpaaLaw45b
namespace Go.Proofs.Ytfeoladkpgojpaa
open Go.RowKit Go.Joins Fdk
set_option linter.unusedVariables false

theorem ov_comm (a x b y : Int) : ovl a x b y = ovl b y a x ∧ ovh a x b y = ovh b y a x := by
  unfold ovl ovh; omega
theorem mg_comm (x y r s p q u v : Int) : mg x y r s p q u v = mg p q u v x y r s := by
  have h1 := ov_comm x r p u
  have h2 := ov_comm y s q v
  have k1 : ovk x r p u = ovk p u x r := by unfold ovk; rw [h1.1, h1.2]
  have k2 : ovk y s q v = ovk q v y s := by unfold ovk; rw [h2.1, h2.2]
  have m1 : ovm x r p u = ovm p u x r := by unfold ovm; rw [h1.1, h1.2]
  have m2 : ovm y s q v = ovm q v y s := by unfold ovm; rw [h2.1, h2.2]
  have w1 : ovw x r p u = ovw p u x r := by unfold ovw; rw [h1.2, m1]
  have w2 : ovw y s q v = ovw q v y s := by unfold ovw; rw [h2.2, m2]
  unfold mg
  rw [k1, k2, m1, m2, w1, w2, Bool.and_comm (bv x y r s)]
theorem ov_facts {a x b y : Int} (h : OvB a x b y) (k : ovk a x b y = true) : (-2000000 ≤ ovm a x b y ∧ ovm a x b y ≤ 2000000) ∧ (0 ≤ ovw a x b y ∧ ovw a x b y ≤ x ∧ ovw a x b y ≤ y) ∧
    ∀ p, a - x ≤ p → p ≤ a + x → b - y ≤ p → p ≤ b + y → ovm a x b y - ovw a x b y ≤ p ∧ p ≤ ovm a x b y + ovw a x b y := by
  obtain ⟨h1, h2, h3, h4⟩ := h
  have k' : ovl a x b y ≤ ovh a x b y := of_decide_eq_true k
  unfold ovw ovm
  unfold ovl ovh at *
  refine ⟨by omega, by omega, fun p p1 p2 p3 p4 => by omega⟩
theorem ovk_t {a x b y p : Int} (h1 : a - x ≤ p) (h2 : p ≤ a + x) (h3 : b - y ≤ p) (h4 : p ≤ b + y) : ovk a x b y = true := by
  unfold ovk ovl ovh; exact decide_eq_true (by omega)
theorem ins_of {x y r s p q : Int} (h : ins x y r s p q = true) : bv x y r s = true ∧ (x - r ≤ p ∧ p ≤ x + r) ∧ y - s ≤ q ∧ q ≤ y + s := by
  simp only [ins, Bool.and_eq_true] at h
  exact ⟨h.1, inb_of h.2.1, inb_of h.2.2⟩
theorem ins_t {x y r s p q : Int} (h : bv x y r s = true) (h1 : x - r ≤ p ∧ p ≤ x + r) (h2 : y - s ≤ q ∧ q ≤ y + s) : ins x y r s p q = true := by
  simp only [ins, h, inb_t h1, inb_t h2]; rfl
theorem meets_cases (x y r s p q u v g h : Int) : (∃ k, (k = 1 ∨ k = 11) ∧ Hid (mg x y r s p q u v = (0, 0, 0, 0, k)) ∧ Hid (mg p q u v x y r s = (0, 0, 0, 0, k)) ∧ (ins x y r s g h = false ∨ (ins x y r s g h = true ∧ ins p q u v g h = false))) ∨
    (∃ X Y R S, Hid (mg x y r s p q u v = (X, Y, R, S, 0)) ∧ Hid (mg p q u v x y r s = (X, Y, R, S, 0)) ∧ bv X Y R S = true ∧ R ≤ r ∧ R ≤ u ∧ S ≤ s ∧ S ≤ v ∧
      (ins x y r s g h = false ∨ (ins x y r s g h = true ∧ ins p q u v g h = false) ∨ (ins x y r s g h = true ∧ ins p q u v g h = true ∧ ins X Y R S g h = true))) := by
  have hc := mg_comm x y r s p q u v
  have three : ins x y r s g h = false ∨ (ins x y r s g h = true ∧ ins p q u v g h = false) ∨ (ins x y r s g h = true ∧ ins p q u v g h = true) := by
    cases ins x y r s g h <;> cases ins p q u v g h <;> simp
  rcases mg_cases x y r s p q u v with ⟨h1, hh⟩ | ⟨h1, h2, hh⟩ | ⟨h1, h2, h3, hh⟩ | ⟨h1, h2, h3, h4, hh⟩ | ⟨h1, h2, h3, h4, hh⟩
  · exact .inl ⟨1, .inl rfl, hh, Lib.hid (hc.symm.trans hh.out), .inl (by simp [ins, h1])⟩
  · refine .inl ⟨1, .inl rfl, hh, Lib.hid (hc.symm.trans hh.out), ?_⟩
    rcases three with t | t | ⟨t1, t2⟩
    · exact .inl t
    · exact .inr t
    · rw [(ins_of t2).1] at h2; cases h2
  · refine .inl ⟨11, .inr rfl, hh, Lib.hid (hc.symm.trans hh.out), ?_⟩
    rcases three with t | t | ⟨t1, t2⟩
    · exact .inl t
    · exact .inr t
    · have e1 := ins_of t1
      have e2 := ins_of t2
      rw [ovk_t e1.2.1.1 e1.2.1.2 e2.2.1.1 e2.2.1.2] at h3; cases h3
  · refine .inl ⟨11, .inr rfl, hh, Lib.hid (hc.symm.trans hh.out), ?_⟩
    rcases three with t | t | ⟨t1, t2⟩
    · exact .inl t
    · exact .inr t
    · have e1 := ins_of t1
      have e2 := ins_of t2
      rw [ovk_t e1.2.2.1 e1.2.2.2 e2.2.2.1 e2.2.2.2] at h4; cases h4
  · obtain ⟨HX, HY⟩ := ovb_x h1 h2
    obtain ⟨f1, f2, f3⟩ := ov_facts HX.out h3
    obtain ⟨g1, g2, g3⟩ := ov_facts HY.out h4
    have b1 := bv_of h1
    have hv : bv (ovm x r p u) (ovm y s q v) (ovw x r p u) (ovw y s q v) = true := by
      simp only [bv, pv, inb_t f1, inb_t g1, inb_t (show 0 ≤ ovw x r p u ∧ ovw x r p u ≤ 2000000 by omega), inb_t (show 0 ≤ ovw y s q v ∧ ovw y s q v ≤ 2000000 by omega)]; rfl
    refine .inr ⟨_, _, _, _, hh, Lib.hid (hc.symm.trans hh.out), hv, f2.2.1, f2.2.2, g2.2.1, g2.2.2, ?_⟩
    rcases three with t | t | ⟨t1, t2⟩
    · exact .inl t
    · exact .inr (.inl t)
    · have e1 := ins_of t1
      have e2 := ins_of t2
      exact .inr (.inr ⟨t1, t2, ins_t hv (f3 g e1.2.1.1 e1.2.1.2 e2.2.1.1 e2.2.1.2) (g3 h e1.2.2.1 e1.2.2.2 e2.2.2.1 e2.2.2.2)⟩)
set_option maxHeartbeats 3200000 in
theorem meets_a0 (x y r s : Int) (p q u v : Int) (g h : Int) (w : World) (HC : Hid (mg x y r s p q u v = (0, 0, 0, 0, 1))) (HD : Hid (mg p q u v x y r s = (0, 0, 0, 0, 1))) (hi1 : ins x y r s g h = false) :
    Calls Try.prog 7 #[boxV x y r s, boxV p q u v, ptV g h] w fun e w' => e = .returned (.bool true) ∧ Below w.heap.size w w' := by
  go_enter Try.func7, Try.ntmps7
  go_wp2_with fail
  refine (awake_any _).mono ?_
  rintro e w1 ⟨rfl, hb1⟩
  have B := thn (below_alloc3 w _ _ _) hb1
  have T := (((cell4_new w _ _ _ _ _).alc _).alc _).next hb1
  have U := ((cell4_new _ _ _ _ _ _).alc _).next hb1
  simp only [World.alloc, Array.size_push] at U
  have O := (cellp_new _ _ _ _).next hb1
  simp only [World.alloc, Array.size_push] at O
  clear hb1
  obtain ⟨ca0, cb0, cc0, cd0, fa0, fb0, fc0, fd0, lz0⟩ := id T
  obtain ⟨ca1, cb1, cc1, cd1, fa1, fb1, fc1, fd1, lz1⟩ := id U
  obtain ⟨ca2, cb2, fa2, fb2, lz2⟩ := id O
  go_wp2_with fail
  refine (sinside_any _ _ _ _ _ _ _).mono ?_
  rintro e w2 ⟨rfl, hb2⟩
  rw [hi1]
  clear ca0 cb0 cc0 cd0 fa0 fb0 fc0 fd0 lz0 ca1 cb1 cc1 cd1 fa1 fb1 fc1 fd1 lz1 ca2 cb2 fa2 fb2 lz2
  replace B := thn B hb2
  replace T := T.next hb2
  replace U := U.next hb2
  replace O := O.next hb2
  clear hb2
  obtain ⟨ca0, cb0, cc0, cd0, fa0, fb0, fc0, fd0, lz0⟩ := id T
  obtain ⟨ca1, cb1, cc1, cd1, fa1, fb1, fc1, fd1, lz1⟩ := id U
  obtain ⟨ca2, cb2, fa2, fb2, lz2⟩ := id O
  go_wp2_with fail
  refine (imerge_any _ _ _ _ _ _ _ _ _).mono ?_
  rintro e w3 ⟨rfl, hb3⟩
  rw [HC.out]
  clear ca0 cb0 cc0 cd0 fa0 fb0 fc0 fd0 lz0 ca1 cb1 cc1 cd1 fa1 fb1 fc1 fd1 lz1 ca2 cb2 fa2 fb2 lz2
  replace B := thn B hb3
  replace T := T.next hb3
  replace U := U.next hb3
  replace O := O.next hb3
  clear hb3
  obtain ⟨ca0, cb0, cc0, cd0, fa0, fb0, fc0, fd0, lz0⟩ := id T
  obtain ⟨ca1, cb1, cc1, cd1, fa1, fb1, fc1, fd1, lz1⟩ := id U
  obtain ⟨ca2, cb2, fa2, fb2, lz2⟩ := id O
  go_wp2_with fail
  refine (imerge_any _ _ _ _ _ _ _ _ _).mono ?_
  rintro e w4 ⟨rfl, hb4⟩
  rw [HD.out]
  clear ca0 cb0 cc0 cd0 fa0 fb0 fc0 fd0 lz0 ca1 cb1 cc1 cd1 fa1 fb1 fc1 fd1 lz1 ca2 cb2 fa2 fb2 lz2
  replace B := thn (alc B _) hb4
  replace T := (T.alc _).next hb4
  replace U := (U.alc _).next hb4
  replace O := (O.alc _).next hb4
  have V := (cell4_new w3 _ _ _ _ _).next hb4
  clear hb4
  obtain ⟨ca0, cb0, cc0, cd0, fa0, fb0, fc0, fd0, lz0⟩ := id T
  obtain ⟨ca1, cb1, cc1, cd1, fa1, fb1, fc1, fd1, lz1⟩ := id U
  obtain ⟨ca2, cb2, fa2, fb2, lz2⟩ := id O
  obtain ⟨ca3, cb3, cc3, cd3, fa3, fb3, fc3, fd3, lz3⟩ := id V
  go_wp2
  go_ret
  exact ⟨rfl, alc B _⟩
set_option maxHeartbeats 3200000 in
theorem meets_a1 (x y r s : Int) (p q u v : Int) (g h : Int) (w : World) (HC : Hid (mg x y r s p q u v = (0, 0, 0, 0, 1))) (HD : Hid (mg p q u v x y r s = (0, 0, 0, 0, 1))) (hi1 : ins x y r s g h = true) (hi2 : ins p q u v g h = false) :
    Calls Try.prog 7 #[boxV x y r s, boxV p q u v, ptV g h] w fun e w' => e = .returned (.bool true) ∧ Below w.heap.size w w' := by
  go_enter Try.func7, Try.ntmps7
  go_wp2_with fail
  refine (awake_any _).mono ?_
  rintro e w1 ⟨rfl, hb1⟩
  have B := thn (below_alloc3 w _ _ _) hb1
  have T := (((cell4_new w _ _ _ _ _).alc _).alc _).next hb1
  have U := ((cell4_new _ _ _ _ _ _).alc _).next hb1
  simp only [World.alloc, Array.size_push] at U
  have O := (cellp_new _ _ _ _).next hb1
  simp only [World.alloc, Array.size_push] at O
  clear hb1
  obtain ⟨ca0, cb0, cc0, cd0, fa0, fb0, fc0, fd0, lz0⟩ := id T
  obtain ⟨ca1, cb1, cc1, cd1, fa1, fb1, fc1, fd1, lz1⟩ := id U
  obtain ⟨ca2, cb2, fa2, fb2, lz2⟩ := id O
  go_wp2_with fail
  refine (sinside_any _ _ _ _ _ _ _).mono ?_
  rintro e w2 ⟨rfl, hb2⟩
  rw [hi1]
  clear ca0 cb0 cc0 cd0 fa0 fb0 fc0 fd0 lz0 ca1 cb1 cc1 cd1 fa1 fb1 fc1 fd1 lz1 ca2 cb2 fa2 fb2 lz2
  replace B := thn B hb2
  replace T := T.next hb2
  replace U := U.next hb2
  replace O := O.next hb2
  clear hb2
  obtain ⟨ca0, cb0, cc0, cd0, fa0, fb0, fc0, fd0, lz0⟩ := id T
  obtain ⟨ca1, cb1, cc1, cd1, fa1, fb1, fc1, fd1, lz1⟩ := id U
  obtain ⟨ca2, cb2, fa2, fb2, lz2⟩ := id O
  go_wp2_with fail
  refine (sinside_any _ _ _ _ _ _ _).mono ?_
  rintro e w3 ⟨rfl, hb3⟩
  rw [hi2]
  clear ca0 cb0 cc0 cd0 fa0 fb0 fc0 fd0 lz0 ca1 cb1 cc1 cd1 fa1 fb1 fc1 fd1 lz1 ca2 cb2 fa2 fb2 lz2
  replace B := thn B hb3
  replace T := T.next hb3
  replace U := U.next hb3
  replace O := O.next hb3
  clear hb3
  obtain ⟨ca0, cb0, cc0, cd0, fa0, fb0, fc0, fd0, lz0⟩ := id T
  obtain ⟨ca1, cb1, cc1, cd1, fa1, fb1, fc1, fd1, lz1⟩ := id U
  obtain ⟨ca2, cb2, fa2, fb2, lz2⟩ := id O
  go_wp2_with fail
  refine (imerge_any _ _ _ _ _ _ _ _ _).mono ?_
  rintro e w4 ⟨rfl, hb4⟩
  rw [HC.out]
  clear ca0 cb0 cc0 cd0 fa0 fb0 fc0 fd0 lz0 ca1 cb1 cc1 cd1 fa1 fb1 fc1 fd1 lz1 ca2 cb2 fa2 fb2 lz2
  replace B := thn B hb4
  replace T := T.next hb4
  replace U := U.next hb4
  replace O := O.next hb4
  clear hb4
  obtain ⟨ca0, cb0, cc0, cd0, fa0, fb0, fc0, fd0, lz0⟩ := id T
  obtain ⟨ca1, cb1, cc1, cd1, fa1, fb1, fc1, fd1, lz1⟩ := id U
  obtain ⟨ca2, cb2, fa2, fb2, lz2⟩ := id O
  go_wp2_with fail
  refine (imerge_any _ _ _ _ _ _ _ _ _).mono ?_
  rintro e w5 ⟨rfl, hb5⟩
  rw [HD.out]
  clear ca0 cb0 cc0 cd0 fa0 fb0 fc0 fd0 lz0 ca1 cb1 cc1 cd1 fa1 fb1 fc1 fd1 lz1 ca2 cb2 fa2 fb2 lz2
  replace B := thn (alc B _) hb5
  replace T := (T.alc _).next hb5
  replace U := (U.alc _).next hb5
  replace O := (O.alc _).next hb5
  have V := (cell4_new w4 _ _ _ _ _).next hb5
  clear hb5
  obtain ⟨ca0, cb0, cc0, cd0, fa0, fb0, fc0, fd0, lz0⟩ := id T
  obtain ⟨ca1, cb1, cc1, cd1, fa1, fb1, fc1, fd1, lz1⟩ := id U
  obtain ⟨ca2, cb2, fa2, fb2, lz2⟩ := id O
  obtain ⟨ca3, cb3, cc3, cd3, fa3, fb3, fc3, fd3, lz3⟩ := id V
  go_wp2
  go_ret
  exact ⟨rfl, alc B _⟩
set_option maxHeartbeats 3200000 in
theorem meets_b0 (x y r s : Int) (p q u v : Int) (g h : Int) (w : World) (HC : Hid (mg x y r s p q u v = (0, 0, 0, 0, 11))) (HD : Hid (mg p q u v x y r s = (0, 0, 0, 0, 11))) (hi1 : ins x y r s g h = false) :
    Calls Try.prog 7 #[boxV x y r s, boxV p q u v, ptV g h] w fun e w' => e = .returned (.bool true) ∧ Below w.heap.size w w' := by
  go_enter Try.func7, Try.ntmps7
  go_wp2_with fail
  refine (awake_any _).mono ?_
  rintro e w1 ⟨rfl, hb1⟩
  have B := thn (below_alloc3 w _ _ _) hb1
  have T := (((cell4_new w _ _ _ _ _).alc _).alc _).next hb1
  have U := ((cell4_new _ _ _ _ _ _).alc _).next hb1
  simp only [World.alloc, Array.size_push] at U
  have O := (cellp_new _ _ _ _).next hb1
  simp only [World.alloc, Array.size_push] at O
  clear hb1
  obtain ⟨ca0, cb0, cc0, cd0, fa0, fb0, fc0, fd0, lz0⟩ := id T
  obtain ⟨ca1, cb1, cc1, cd1, fa1, fb1, fc1, fd1, lz1⟩ := id U
  obtain ⟨ca2, cb2, fa2, fb2, lz2⟩ := id O
  go_wp2_with fail
  refine (sinside_any _ _ _ _ _ _ _).mono ?_
  rintro e w2 ⟨rfl, hb2⟩
  rw [hi1]
  clear ca0 cb0 cc0 cd0 fa0 fb0 fc0 fd0 lz0 ca1 cb1 cc1 cd1 fa1 fb1 fc1 fd1 lz1 ca2 cb2 fa2 fb2 lz2
  replace B := thn B hb2
  replace T := T.next hb2
  replace U := U.next hb2
  replace O := O.next hb2
  clear hb2
  obtain ⟨ca0, cb0, cc0, cd0, fa0, fb0, fc0, fd0, lz0⟩ := id T
  obtain ⟨ca1, cb1, cc1, cd1, fa1, fb1, fc1, fd1, lz1⟩ := id U
  obtain ⟨ca2, cb2, fa2, fb2, lz2⟩ := id O
  go_wp2_with fail
  refine (imerge_any _ _ _ _ _ _ _ _ _).mono ?_
  rintro e w3 ⟨rfl, hb3⟩
  rw [HC.out]
  clear ca0 cb0 cc0 cd0 fa0 fb0 fc0 fd0 lz0 ca1 cb1 cc1 cd1 fa1 fb1 fc1 fd1 lz1 ca2 cb2 fa2 fb2 lz2
  replace B := thn B hb3
  replace T := T.next hb3
  replace U := U.next hb3
  replace O := O.next hb3
  clear hb3
  obtain ⟨ca0, cb0, cc0, cd0, fa0, fb0, fc0, fd0, lz0⟩ := id T
  obtain ⟨ca1, cb1, cc1, cd1, fa1, fb1, fc1, fd1, lz1⟩ := id U
  obtain ⟨ca2, cb2, fa2, fb2, lz2⟩ := id O
  go_wp2_with fail
  refine (imerge_any _ _ _ _ _ _ _ _ _).mono ?_
  rintro e w4 ⟨rfl, hb4⟩
  rw [HD.out]
  clear ca0 cb0 cc0 cd0 fa0 fb0 fc0 fd0 lz0 ca1 cb1 cc1 cd1 fa1 fb1 fc1 fd1 lz1 ca2 cb2 fa2 fb2 lz2
  replace B := thn (alc B _) hb4
  replace T := (T.alc _).next hb4
  replace U := (U.alc _).next hb4
  replace O := (O.alc _).next hb4
  have V := (cell4_new w3 _ _ _ _ _).next hb4
  clear hb4
  obtain ⟨ca0, cb0, cc0, cd0, fa0, fb0, fc0, fd0, lz0⟩ := id T
  obtain ⟨ca1, cb1, cc1, cd1, fa1, fb1, fc1, fd1, lz1⟩ := id U
  obtain ⟨ca2, cb2, fa2, fb2, lz2⟩ := id O
  obtain ⟨ca3, cb3, cc3, cd3, fa3, fb3, fc3, fd3, lz3⟩ := id V
  go_wp2
  go_ret
  exact ⟨rfl, alc B _⟩
set_option maxHeartbeats 3200000 in
theorem meets_b1 (x y r s : Int) (p q u v : Int) (g h : Int) (w : World) (HC : Hid (mg x y r s p q u v = (0, 0, 0, 0, 11))) (HD : Hid (mg p q u v x y r s = (0, 0, 0, 0, 11))) (hi1 : ins x y r s g h = true) (hi2 : ins p q u v g h = false) :
    Calls Try.prog 7 #[boxV x y r s, boxV p q u v, ptV g h] w fun e w' => e = .returned (.bool true) ∧ Below w.heap.size w w' := by
  go_enter Try.func7, Try.ntmps7
  go_wp2_with fail
  refine (awake_any _).mono ?_
  rintro e w1 ⟨rfl, hb1⟩
  have B := thn (below_alloc3 w _ _ _) hb1
  have T := (((cell4_new w _ _ _ _ _).alc _).alc _).next hb1
  have U := ((cell4_new _ _ _ _ _ _).alc _).next hb1
  simp only [World.alloc, Array.size_push] at U
  have O := (cellp_new _ _ _ _).next hb1
  simp only [World.alloc, Array.size_push] at O
  clear hb1
  obtain ⟨ca0, cb0, cc0, cd0, fa0, fb0, fc0, fd0, lz0⟩ := id T
  obtain ⟨ca1, cb1, cc1, cd1, fa1, fb1, fc1, fd1, lz1⟩ := id U
  obtain ⟨ca2, cb2, fa2, fb2, lz2⟩ := id O
  go_wp2_with fail
  refine (sinside_any _ _ _ _ _ _ _).mono ?_
  rintro e w2 ⟨rfl, hb2⟩
  rw [hi1]
  clear ca0 cb0 cc0 cd0 fa0 fb0 fc0 fd0 lz0 ca1 cb1 cc1 cd1 fa1 fb1 fc1 fd1 lz1 ca2 cb2 fa2 fb2 lz2
  replace B := thn B hb2
  replace T := T.next hb2
  replace U := U.next hb2
  replace O := O.next hb2
  clear hb2
  obtain ⟨ca0, cb0, cc0, cd0, fa0, fb0, fc0, fd0, lz0⟩ := id T
  obtain ⟨ca1, cb1, cc1, cd1, fa1, fb1, fc1, fd1, lz1⟩ := id U
  obtain ⟨ca2, cb2, fa2, fb2, lz2⟩ := id O
  go_wp2_with fail
  refine (sinside_any _ _ _ _ _ _ _).mono ?_
  rintro e w3 ⟨rfl, hb3⟩
  rw [hi2]
  clear ca0 cb0 cc0 cd0 fa0 fb0 fc0 fd0 lz0 ca1 cb1 cc1 cd1 fa1 fb1 fc1 fd1 lz1 ca2 cb2 fa2 fb2 lz2
  replace B := thn B hb3
  replace T := T.next hb3
  replace U := U.next hb3
  replace O := O.next hb3
  clear hb3
  obtain ⟨ca0, cb0, cc0, cd0, fa0, fb0, fc0, fd0, lz0⟩ := id T
  obtain ⟨ca1, cb1, cc1, cd1, fa1, fb1, fc1, fd1, lz1⟩ := id U
  obtain ⟨ca2, cb2, fa2, fb2, lz2⟩ := id O
  go_wp2_with fail
  refine (imerge_any _ _ _ _ _ _ _ _ _).mono ?_
  rintro e w4 ⟨rfl, hb4⟩
  rw [HC.out]
  clear ca0 cb0 cc0 cd0 fa0 fb0 fc0 fd0 lz0 ca1 cb1 cc1 cd1 fa1 fb1 fc1 fd1 lz1 ca2 cb2 fa2 fb2 lz2
  replace B := thn B hb4
  replace T := T.next hb4
  replace U := U.next hb4
  replace O := O.next hb4
  clear hb4
  obtain ⟨ca0, cb0, cc0, cd0, fa0, fb0, fc0, fd0, lz0⟩ := id T
  obtain ⟨ca1, cb1, cc1, cd1, fa1, fb1, fc1, fd1, lz1⟩ := id U
  obtain ⟨ca2, cb2, fa2, fb2, lz2⟩ := id O
  go_wp2_with fail
  refine (imerge_any _ _ _ _ _ _ _ _ _).mono ?_
  rintro e w5 ⟨rfl, hb5⟩
  rw [HD.out]
  clear ca0 cb0 cc0 cd0 fa0 fb0 fc0 fd0 lz0 ca1 cb1 cc1 cd1 fa1 fb1 fc1 fd1 lz1 ca2 cb2 fa2 fb2 lz2
  replace B := thn (alc B _) hb5
  replace T := (T.alc _).next hb5
  replace U := (U.alc _).next hb5
  replace O := (O.alc _).next hb5
  have V := (cell4_new w4 _ _ _ _ _).next hb5
  clear hb5
  obtain ⟨ca0, cb0, cc0, cd0, fa0, fb0, fc0, fd0, lz0⟩ := id T
  obtain ⟨ca1, cb1, cc1, cd1, fa1, fb1, fc1, fd1, lz1⟩ := id U
  obtain ⟨ca2, cb2, fa2, fb2, lz2⟩ := id O
  obtain ⟨ca3, cb3, cc3, cd3, fa3, fb3, fc3, fd3, lz3⟩ := id V
  go_wp2
  go_ret
  exact ⟨rfl, alc B _⟩
set_option maxHeartbeats 3200000 in
theorem meets_c0 (x y r s : Int) (p q u v : Int) (g h : Int) (w : World) (X Y R S : Int) (HC : Hid (mg x y r s p q u v = (X, Y, R, S, 0))) (HD : Hid (mg p q u v x y r s = (X, Y, R, S, 0))) (hv : bv X Y R S = true) (l1 : R ≤ r) (l2 : R ≤ u) (l3 : S ≤ s) (l4 : S ≤ v) (hi1 : ins x y r s g h = false) :
    Calls Try.prog 7 #[boxV x y r s, boxV p q u v, ptV g h] w fun e w' => e = .returned (.bool true) ∧ Below w.heap.size w w' := by
  go_enter Try.func7, Try.ntmps7
  go_wp2_with fail
  refine (awake_any _).mono ?_
  rintro e w1 ⟨rfl, hb1⟩
  have B := thn (below_alloc3 w _ _ _) hb1
  have T := (((cell4_new w _ _ _ _ _).alc _).alc _).next hb1
  have U := ((cell4_new _ _ _ _ _ _).alc _).next hb1
  simp only [World.alloc, Array.size_push] at U
  have O := (cellp_new _ _ _ _).next hb1
  simp only [World.alloc, Array.size_push] at O
  clear hb1
  obtain ⟨ca0, cb0, cc0, cd0, fa0, fb0, fc0, fd0, lz0⟩ := id T
  obtain ⟨ca1, cb1, cc1, cd1, fa1, fb1, fc1, fd1, lz1⟩ := id U
  obtain ⟨ca2, cb2, fa2, fb2, lz2⟩ := id O
  go_wp2_with fail
  refine (sinside_any _ _ _ _ _ _ _).mono ?_
  rintro e w2 ⟨rfl, hb2⟩
  rw [hi1]
  clear ca0 cb0 cc0 cd0 fa0 fb0 fc0 fd0 lz0 ca1 cb1 cc1 cd1 fa1 fb1 fc1 fd1 lz1 ca2 cb2 fa2 fb2 lz2
  replace B := thn B hb2
  replace T := T.next hb2
  replace U := U.next hb2
  replace O := O.next hb2
  clear hb2
  obtain ⟨ca0, cb0, cc0, cd0, fa0, fb0, fc0, fd0, lz0⟩ := id T
  obtain ⟨ca1, cb1, cc1, cd1, fa1, fb1, fc1, fd1, lz1⟩ := id U
  obtain ⟨ca2, cb2, fa2, fb2, lz2⟩ := id O
  go_wp2_with fail
  refine (imerge_any _ _ _ _ _ _ _ _ _).mono ?_
  rintro e w3 ⟨rfl, hb3⟩
  rw [HC.out]
  clear ca0 cb0 cc0 cd0 fa0 fb0 fc0 fd0 lz0 ca1 cb1 cc1 cd1 fa1 fb1 fc1 fd1 lz1 ca2 cb2 fa2 fb2 lz2
  replace B := thn B hb3
  replace T := T.next hb3
  replace U := U.next hb3
  replace O := O.next hb3
  clear hb3
  obtain ⟨ca0, cb0, cc0, cd0, fa0, fb0, fc0, fd0, lz0⟩ := id T
  obtain ⟨ca1, cb1, cc1, cd1, fa1, fb1, fc1, fd1, lz1⟩ := id U
  obtain ⟨ca2, cb2, fa2, fb2, lz2⟩ := id O
  go_wp2_with fail
  refine (imerge_any _ _ _ _ _ _ _ _ _).mono ?_
  rintro e w4 ⟨rfl, hb4⟩
  rw [HD.out]
  clear ca0 cb0 cc0 cd0 fa0 fb0 fc0 fd0 lz0 ca1 cb1 cc1 cd1 fa1 fb1 fc1 fd1 lz1 ca2 cb2 fa2 fb2 lz2
  replace B := thn (alc B _) hb4
  replace T := (T.alc _).next hb4
  replace U := (U.alc _).next hb4
  replace O := (O.alc _).next hb4
  have V := (cell4_new w3 _ _ _ _ _).next hb4
  clear hb4
  obtain ⟨ca0, cb0, cc0, cd0, fa0, fb0, fc0, fd0, lz0⟩ := id T
  obtain ⟨ca1, cb1, cc1, cd1, fa1, fb1, fc1, fd1, lz1⟩ := id U
  obtain ⟨ca2, cb2, fa2, fb2, lz2⟩ := id O
  obtain ⟨ca3, cb3, cc3, cd3, fa3, fb3, fc3, fd3, lz3⟩ := id V
  go_wp2_with fail
  refine (ivalid_any _ _ _ _ _).mono ?_
  rintro e w5 ⟨rfl, hb5⟩
  rw [hv]
  clear ca0 cb0 cc0 cd0 fa0 fb0 fc0 fd0 lz0 ca1 cb1 cc1 cd1 fa1 fb1 fc1 fd1 lz1 ca2 cb2 fa2 fb2 lz2 ca3 cb3 cc3 cd3 fa3 fb3 fc3 fd3 lz3
  replace B := thn (alc B _) hb5
  replace T := (T.alc _).next hb5
  replace U := (U.alc _).next hb5
  replace O := (O.alc _).next hb5
  replace V := (V.alc _).next hb5
  have X := (cell4_new w4 _ _ _ _ _).next hb5
  clear hb5
  obtain ⟨ca0, cb0, cc0, cd0, fa0, fb0, fc0, fd0, lz0⟩ := id T
  obtain ⟨ca1, cb1, cc1, cd1, fa1, fb1, fc1, fd1, lz1⟩ := id U
  obtain ⟨ca2, cb2, fa2, fb2, lz2⟩ := id O
  obtain ⟨ca3, cb3, cc3, cd3, fa3, fb3, fc3, fd3, lz3⟩ := id V
  obtain ⟨ca4, cb4, cc4, cd4, fa4, fb4, fc4, fd4, lz4⟩ := id X
  go_wp2
  go_ret
  exact ⟨rfl, B⟩
set_option maxHeartbeats 3200000 in
theorem meets_c1 (x y r s : Int) (p q u v : Int) (g h : Int) (w : World) (X Y R S : Int) (HC : Hid (mg x y r s p q u v = (X, Y, R, S, 0))) (HD : Hid (mg p q u v x y r s = (X, Y, R, S, 0))) (hv : bv X Y R S = true) (l1 : R ≤ r) (l2 : R ≤ u) (l3 : S ≤ s) (l4 : S ≤ v) (hi1 : ins x y r s g h = true) (hi2 : ins p q u v g h = false) :
    Calls Try.prog 7 #[boxV x y r s, boxV p q u v, ptV g h] w fun e w' => e = .returned (.bool true) ∧ Below w.heap.size w w' := by
  go_enter Try.func7, Try.ntmps7
  go_wp2_with fail
  refine (awake_any _).mono ?_
  rintro e w1 ⟨rfl, hb1⟩
  have B := thn (below_alloc3 w _ _ _) hb1
  have T := (((cell4_new w _ _ _ _ _).alc _).alc _).next hb1
  have U := ((cell4_new _ _ _ _ _ _).alc _).next hb1
  simp only [World.alloc, Array.size_push] at U
  have O := (cellp_new _ _ _ _).next hb1
  simp only [World.alloc, Array.size_push] at O
  clear hb1
  obtain ⟨ca0, cb0, cc0, cd0, fa0, fb0, fc0, fd0, lz0⟩ := id T
  obtain ⟨ca1, cb1, cc1, cd1, fa1, fb1, fc1, fd1, lz1⟩ := id U
  obtain ⟨ca2, cb2, fa2, fb2, lz2⟩ := id O
  go_wp2_with fail
  refine (sinside_any _ _ _ _ _ _ _).mono ?_
  rintro e w2 ⟨rfl, hb2⟩
  rw [hi1]
  clear ca0 cb0 cc0 cd0 fa0 fb0 fc0 fd0 lz0 ca1 cb1 cc1 cd1 fa1 fb1 fc1 fd1 lz1 ca2 cb2 fa2 fb2 lz2
  replace B := thn B hb2
  replace T := T.next hb2
  replace U := U.next hb2
  replace O := O.next hb2
  clear hb2
  obtain ⟨ca0, cb0, cc0, cd0, fa0, fb0, fc0, fd0, lz0⟩ := id T
  obtain ⟨ca1, cb1, cc1, cd1, fa1, fb1, fc1, fd1, lz1⟩ := id U
  obtain ⟨ca2, cb2, fa2, fb2, lz2⟩ := id O
  go_wp2_with fail
  refine (sinside_any _ _ _ _ _ _ _).mono ?_
  rintro e w3 ⟨rfl, hb3⟩
  rw [hi2]
  clear ca0 cb0 cc0 cd0 fa0 fb0 fc0 fd0 lz0 ca1 cb1 cc1 cd1 fa1 fb1 fc1 fd1 lz1 ca2 cb2 fa2 fb2 lz2
  replace B := thn B hb3
  replace T := T.next hb3
  replace U := U.next hb3
  replace O := O.next hb3
  clear hb3
  obtain ⟨ca0, cb0, cc0, cd0, fa0, fb0, fc0, fd0, lz0⟩ := id T
  obtain ⟨ca1, cb1, cc1, cd1, fa1, fb1, fc1, fd1, lz1⟩ := id U
  obtain ⟨ca2, cb2, fa2, fb2, lz2⟩ := id O
  go_wp2_with fail
  refine (imerge_any _ _ _ _ _ _ _ _ _).mono ?_
  rintro e w4 ⟨rfl, hb4⟩
  rw [HC.out]
  clear ca0 cb0 cc0 cd0 fa0 fb0 fc0 fd0 lz0 ca1 cb1 cc1 cd1 fa1 fb1 fc1 fd1 lz1 ca2 cb2 fa2 fb2 lz2
  replace B := thn B hb4
  replace T := T.next hb4
  replace U := U.next hb4
  replace O := O.next hb4
  clear hb4
  obtain ⟨ca0, cb0, cc0, cd0, fa0, fb0, fc0, fd0, lz0⟩ := id T
  obtain ⟨ca1, cb1, cc1, cd1, fa1, fb1, fc1, fd1, lz1⟩ := id U
  obtain ⟨ca2, cb2, fa2, fb2, lz2⟩ := id O
  go_wp2_with fail
  refine (imerge_any _ _ _ _ _ _ _ _ _).mono ?_
  rintro e w5 ⟨rfl, hb5⟩
  rw [HD.out]
  clear ca0 cb0 cc0 cd0 fa0 fb0 fc0 fd0 lz0 ca1 cb1 cc1 cd1 fa1 fb1 fc1 fd1 lz1 ca2 cb2 fa2 fb2 lz2
  replace B := thn (alc B _) hb5
  replace T := (T.alc _).next hb5
  replace U := (U.alc _).next hb5
  replace O := (O.alc _).next hb5
  have V := (cell4_new w4 _ _ _ _ _).next hb5
  clear hb5
  obtain ⟨ca0, cb0, cc0, cd0, fa0, fb0, fc0, fd0, lz0⟩ := id T
  obtain ⟨ca1, cb1, cc1, cd1, fa1, fb1, fc1, fd1, lz1⟩ := id U
  obtain ⟨ca2, cb2, fa2, fb2, lz2⟩ := id O
  obtain ⟨ca3, cb3, cc3, cd3, fa3, fb3, fc3, fd3, lz3⟩ := id V
  go_wp2_with fail
  refine (ivalid_any _ _ _ _ _).mono ?_
  rintro e w6 ⟨rfl, hb6⟩
  rw [hv]
  clear ca0 cb0 cc0 cd0 fa0 fb0 fc0 fd0 lz0 ca1 cb1 cc1 cd1 fa1 fb1 fc1 fd1 lz1 ca2 cb2 fa2 fb2 lz2 ca3 cb3 cc3 cd3 fa3 fb3 fc3 fd3 lz3
  replace B := thn (alc B _) hb6
  replace T := (T.alc _).next hb6
  replace U := (U.alc _).next hb6
  replace O := (O.alc _).next hb6
  replace V := (V.alc _).next hb6
  have X := (cell4_new w5 _ _ _ _ _).next hb6
  clear hb6
  obtain ⟨ca0, cb0, cc0, cd0, fa0, fb0, fc0, fd0, lz0⟩ := id T
  obtain ⟨ca1, cb1, cc1, cd1, fa1, fb1, fc1, fd1, lz1⟩ := id U
  obtain ⟨ca2, cb2, fa2, fb2, lz2⟩ := id O
  obtain ⟨ca3, cb3, cc3, cd3, fa3, fb3, fc3, fd3, lz3⟩ := id V
  obtain ⟨ca4, cb4, cc4, cd4, fa4, fb4, fc4, fd4, lz4⟩ := id X
  go_wp2
  go_ret
  exact ⟨rfl, B⟩
set_option maxHeartbeats 3200000 in
theorem meets_c2 (x y r s : Int) (p q u v : Int) (g h : Int) (w : World) (X Y R S : Int) (HC : Hid (mg x y r s p q u v = (X, Y, R, S, 0))) (HD : Hid (mg p q u v x y r s = (X, Y, R, S, 0))) (hv : bv X Y R S = true) (l1 : R ≤ r) (l2 : R ≤ u) (l3 : S ≤ s) (l4 : S ≤ v) (hi1 : ins x y r s g h = true) (hi2 : ins p q u v g h = true) (hi3 : ins X Y R S g h = true) :
    Calls Try.prog 7 #[boxV x y r s, boxV p q u v, ptV g h] w fun e w' => e = .returned (.bool true) ∧ Below w.heap.size w w' := by
  go_enter Try.func7, Try.ntmps7
  go_wp2_with fail
  refine (awake_any _).mono ?_
  rintro e w1 ⟨rfl, hb1⟩
  have B := thn (below_alloc3 w _ _ _) hb1
  have T := (((cell4_new w _ _ _ _ _).alc _).alc _).next hb1
  have U := ((cell4_new _ _ _ _ _ _).alc _).next hb1
  simp only [World.alloc, Array.size_push] at U
  have O := (cellp_new _ _ _ _).next hb1
  simp only [World.alloc, Array.size_push] at O
  clear hb1
  obtain ⟨ca0, cb0, cc0, cd0, fa0, fb0, fc0, fd0, lz0⟩ := id T
  obtain ⟨ca1, cb1, cc1, cd1, fa1, fb1, fc1, fd1, lz1⟩ := id U
  obtain ⟨ca2, cb2, fa2, fb2, lz2⟩ := id O
  go_wp2_with fail
  refine (sinside_any _ _ _ _ _ _ _).mono ?_
  rintro e w2 ⟨rfl, hb2⟩
  rw [hi1]
  clear ca0 cb0 cc0 cd0 fa0 fb0 fc0 fd0 lz0 ca1 cb1 cc1 cd1 fa1 fb1 fc1 fd1 lz1 ca2 cb2 fa2 fb2 lz2
  replace B := thn B hb2
  replace T := T.next hb2
  replace U := U.next hb2
  replace O := O.next hb2
  clear hb2
  obtain ⟨ca0, cb0, cc0, cd0, fa0, fb0, fc0, fd0, lz0⟩ := id T
  obtain ⟨ca1, cb1, cc1, cd1, fa1, fb1, fc1, fd1, lz1⟩ := id U
  obtain ⟨ca2, cb2, fa2, fb2, lz2⟩ := id O
  go_wp2_with fail
  refine (sinside_any _ _ _ _ _ _ _).mono ?_
  rintro e w3 ⟨rfl, hb3⟩
  rw [hi2]
  clear ca0 cb0 cc0 cd0 fa0 fb0 fc0 fd0 lz0 ca1 cb1 cc1 cd1 fa1 fb1 fc1 fd1 lz1 ca2 cb2 fa2 fb2 lz2
  replace B := thn B hb3
  replace T := T.next hb3
  replace U := U.next hb3
  replace O := O.next hb3
  clear hb3
  obtain ⟨ca0, cb0, cc0, cd0, fa0, fb0, fc0, fd0, lz0⟩ := id T
  obtain ⟨ca1, cb1, cc1, cd1, fa1, fb1, fc1, fd1, lz1⟩ := id U
  obtain ⟨ca2, cb2, fa2, fb2, lz2⟩ := id O
  go_wp2_with fail
  refine (imerge_any _ _ _ _ _ _ _ _ _).mono ?_
  rintro e w4 ⟨rfl, hb4⟩
  rw [HC.out]
  clear ca0 cb0 cc0 cd0 fa0 fb0 fc0 fd0 lz0 ca1 cb1 cc1 cd1 fa1 fb1 fc1 fd1 lz1 ca2 cb2 fa2 fb2 lz2
  replace B := thn B hb4
  replace T := T.next hb4
  replace U := U.next hb4
  replace O := O.next hb4
  clear hb4
  obtain ⟨ca0, cb0, cc0, cd0, fa0, fb0, fc0, fd0, lz0⟩ := id T
  obtain ⟨ca1, cb1, cc1, cd1, fa1, fb1, fc1, fd1, lz1⟩ := id U
  obtain ⟨ca2, cb2, fa2, fb2, lz2⟩ := id O
  go_wp2_with fail
  refine (imerge_any _ _ _ _ _ _ _ _ _).mono ?_
  rintro e w5 ⟨rfl, hb5⟩
  rw [HD.out]
  clear ca0 cb0 cc0 cd0 fa0 fb0 fc0 fd0 lz0 ca1 cb1 cc1 cd1 fa1 fb1 fc1 fd1 lz1 ca2 cb2 fa2 fb2 lz2
  replace B := thn (alc B _) hb5
  replace T := (T.alc _).next hb5
  replace U := (U.alc _).next hb5
  replace O := (O.alc _).next hb5
  have V := (cell4_new w4 _ _ _ _ _).next hb5
  clear hb5
  obtain ⟨ca0, cb0, cc0, cd0, fa0, fb0, fc0, fd0, lz0⟩ := id T
  obtain ⟨ca1, cb1, cc1, cd1, fa1, fb1, fc1, fd1, lz1⟩ := id U
  obtain ⟨ca2, cb2, fa2, fb2, lz2⟩ := id O
  obtain ⟨ca3, cb3, cc3, cd3, fa3, fb3, fc3, fd3, lz3⟩ := id V
  go_wp2_with fail
  refine (ivalid_any _ _ _ _ _).mono ?_
  rintro e w6 ⟨rfl, hb6⟩
  rw [hv]
  clear ca0 cb0 cc0 cd0 fa0 fb0 fc0 fd0 lz0 ca1 cb1 cc1 cd1 fa1 fb1 fc1 fd1 lz1 ca2 cb2 fa2 fb2 lz2 ca3 cb3 cc3 cd3 fa3 fb3 fc3 fd3 lz3
  replace B := thn (alc B _) hb6
  replace T := (T.alc _).next hb6
  replace U := (U.alc _).next hb6
  replace O := (O.alc _).next hb6
  replace V := (V.alc _).next hb6
  have X := (cell4_new w5 _ _ _ _ _).next hb6
  clear hb6
  obtain ⟨ca0, cb0, cc0, cd0, fa0, fb0, fc0, fd0, lz0⟩ := id T
  obtain ⟨ca1, cb1, cc1, cd1, fa1, fb1, fc1, fd1, lz1⟩ := id U
  obtain ⟨ca2, cb2, fa2, fb2, lz2⟩ := id O
  obtain ⟨ca3, cb3, cc3, cd3, fa3, fb3, fc3, fd3, lz3⟩ := id V
  obtain ⟨ca4, cb4, cc4, cd4, fa4, fb4, fc4, fd4, lz4⟩ := id X
  go_wp2_with fail
  refine (sinside_any _ _ _ _ _ _ _).mono ?_
  rintro e w7 ⟨rfl, hb7⟩
  rw [hi3]
  clear ca0 cb0 cc0 cd0 fa0 fb0 fc0 fd0 lz0 ca1 cb1 cc1 cd1 fa1 fb1 fc1 fd1 lz1 ca2 cb2 fa2 fb2 lz2 ca3 cb3 cc3 cd3 fa3 fb3 fc3 fd3 lz3 ca4 cb4 cc4 cd4 fa4 fb4 fc4 fd4 lz4
  replace B := thn B hb7
  replace T := T.next hb7
  replace U := U.next hb7
  replace O := O.next hb7
  replace V := V.next hb7
  replace X := X.next hb7
  clear hb7
  obtain ⟨ca0, cb0, cc0, cd0, fa0, fb0, fc0, fd0, lz0⟩ := id T
  obtain ⟨ca1, cb1, cc1, cd1, fa1, fb1, fc1, fd1, lz1⟩ := id U
  obtain ⟨ca2, cb2, fa2, fb2, lz2⟩ := id O
  obtain ⟨ca3, cb3, cc3, cd3, fa3, fb3, fc3, fd3, lz3⟩ := id V
  obtain ⟨ca4, cb4, cc4, cd4, fa4, fb4, fc4, fd4, lz4⟩ := id X
  go_wp2
  go_ret
  exact ⟨rfl, B⟩
theorem inertialMeets_walk (x y r s : Int) (p q u v : Int) (g h : Int) (_ : -9223372036854775808 ≤ g ∧ g ≤ 9223372036854775807) (_ : -9223372036854775808 ≤ h ∧ h ≤ 9223372036854775807) (w : World) :
    Calls Try.prog 7 #[boxV x y r s, boxV p q u v, ptV g h] w fun e w' => e = .returned (.bool true) ∧ Below w.heap.size w w' := by
  rcases meets_cases x y r s p q u v g h with ⟨k, rfl | rfl, HC, HD, hi1 | ⟨hi1, hi2⟩⟩ | ⟨X, Y, R, S, HC, HD, hv, l1, l2, l3, l4, hi1 | ⟨hi1, hi2⟩ | ⟨hi1, hi2, hi3⟩⟩
  · exact meets_a0 x y r s p q u v g h w HC HD hi1
  · exact meets_a1 x y r s p q u v g h w HC HD hi1 hi2
  · exact meets_b0 x y r s p q u v g h w HC HD hi1
  · exact meets_b1 x y r s p q u v g h w HC HD hi1 hi2
  · exact meets_c0 x y r s p q u v g h w X Y R S HC HD hv l1 l2 l3 l4 hi1
  · exact meets_c1 x y r s p q u v g h w X Y R S HC HD hv l1 l2 l3 l4 hi1 hi2
  · exact meets_c2 x y r s p q u v g h w X Y R S HC HD hv l1 l2 l3 l4 hi1 hi2 hi3
end Go.Proofs.Ytfeoladkpgojpaa
