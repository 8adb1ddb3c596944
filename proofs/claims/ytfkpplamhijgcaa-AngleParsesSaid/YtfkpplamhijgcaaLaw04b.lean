/- The laws of chapter 4 on texts: each call returns true. -/
import Derived.Test.YtfkpplamhijgcaaAwake04
import Derived.Test.YtfkpplamhijgcaaPlain04
namespace Go.Proofs.Ytfkpplamhijgcaa
open Go.RowKit
set_option linter.unusedVariables false

theorem ad_course (a : Int) : -18000 < adiff a ((a % 129600000 + 18000) / 36000 % 3600 * 36000) ∧ adiff a ((a % 129600000 + 18000) / 36000 % 3600 * 36000) ≤ 18000 := by
  unfold adiff; split <;> omega
theorem small_str (l : List UInt8) (h : l.length ≤ 100) : (⟨l.toArray⟩ : ByteArray).size ≤ maxLen := by
  show l.toArray.size ≤ maxLen; unfold maxLen; simp; omega
set_option maxHeartbeats 800000 in
theorem angleCourses_walk (a : Int) (_ : -9223372036854775808 ≤ a ∧ a ≤ 9223372036854775807) (w : World) :
    Calls Try.prog 8 #[.int .i64 a] w fun e w' => e = .returned (.bool true) ∧ Below w.heap.size w w' := by
  have HD := Lib.hid (ad_course a)
  have HT := Lib.hid (pcrs_text ((a % 129600000 + 18000) / 36000 % 3600) (by omega) (by omega))
  have HE := Lib.hid (pex_text (a % 129600000) (by omega) (by omega))
  go_enter Try.func8, Try.ntmps8
  go_wp2_with fail
  refine (awake_any _).mono ?_
  rintro e w1 ⟨rfl, hb1⟩
  go_wp2_with fail
  refine (cT_any _ _).mono ?_
  rintro e w2 ⟨rfl, hb2⟩
  go_wp2_with fail
  refine (ex_any _ _).mono ?_
  rintro e w3 ⟨rfl, hb3⟩
  go_wp2_with fail
  refine (pcrs_any _ _ (small_str _ (by rw [dgb_len]; omega))).mono ?_
  rintro e w4 ⟨rfl, rfl⟩
  rw [HT.out]
  go_wp2_with fail
  refine (pex_any _ _ (small_str _ (by rw [sexb_len]; omega))).mono ?_
  rintro e w5 ⟨rfl, rfl⟩
  rw [HE.out]
  go_wp2_with fail
  refine (rcT_any _ _).mono ?_
  rintro e w6 ⟨rfl, hb6⟩
  go_wp2_with fail
  refine (rex_any _ _).mono ?_
  rintro e w7 ⟨rfl, hb7⟩
  have ⟨d0, d1⟩ := HD.out
  go_wp2_with (first | (go_at_call 14; refine (norm_any _ _).mono ?_; rintro e w' ⟨rfl, rfl⟩) | (go_at_call 13; refine (diff_any _ _ _).mono ?_; rintro e w' ⟨rfl, rfl⟩))
  go_ret
  have s1 := hb1.size
  have s2 := hb2.size
  have s3 := hb3.size
  have s6 := hb6.size
  exact ⟨rfl, hb1.trans ((hb2.mono (by omega)).trans ((hb3.mono (by omega)).trans ((hb6.mono (by omega)).trans (hb7.mono (by omega)))))⟩

/-- what a reading gives, and that it is the text's. -/
theorem crs_split (s : ByteArray) : ∃ a e : Int, pcrs s = (a, e) ∧ (e = 0 → (⟨(dgb ((a % 129600000 + 18000) / 36000 % 3600) 4).toArray⟩ : ByteArray) = s) :=
  ⟨(pcrs s).1, (pcrs s).2, rfl, fun h => (mk_back s _ (pcrs_back s h).symm).symm⟩
theorem ex_split (s : ByteArray) : ∃ a e : Int, pex s = (a, e) ∧ (e = 0 → (⟨(sexb (a % 129600000) 3).toArray⟩ : ByteArray) = s) :=
  ⟨(pex s).1, (pex s).2, rfl, fun h => (mk_back s _ (pex_back s h).symm).symm⟩
set_option maxHeartbeats 1600000 in
theorem angleReads_walk (s : ByteArray) (hm : s.size ≤ maxLen) (w : World) :
    Calls Try.prog 9 #[.string s] w fun e w' => e = .returned (.bool true) ∧ Below w.heap.size w w' := by
  obtain ⟨a, e, hP, hPe⟩ := crs_split s
  obtain ⟨b, g, hQ, hQe⟩ := ex_split s
  have HP := Lib.hid hP
  have HQ := Lib.hid hQ
  clear hP hQ
  by_cases he : e = 0
  all_goals
    by_cases hg : g = 0
    all_goals
      have HE := Lib.hid hPe
      have HG := Lib.hid hQe
      have Z1 := Lib.hid he
      have Z2 := Lib.hid hg
      have h1 : (e != 0) = !decide (e = 0) := by by_cases h : e = 0 <;> simp [h]
      have h2 : (g != 0) = !decide (g = 0) := by by_cases h : g = 0 <;> simp [h]
      first | rw [decide_eq_true he] at h1 | rw [decide_eq_false he] at h1
      first | rw [decide_eq_true hg] at h2 | rw [decide_eq_false hg] at h2
      simp only [Bool.not_true, Bool.not_false] at h1 h2
      clear hPe hQe he hg
      go_enter Try.func9, Try.ntmps9
      go_wp2_with fail
      refine (awake_any _).mono ?_
      rintro e w1 ⟨rfl, hb1⟩
      go_wp2_with fail
      refine (pcrs_any _ _ hm).mono ?_
      rintro e w4 ⟨rfl, rfl⟩
      rw [HP.out]
      go_wp2_with fail
      refine (rpcrs_any _ _ hm).mono ?_
      rintro e w4 ⟨rfl, rfl⟩
      rw [HP.out]
      go_wp2_with fail
      refine (pex_any _ _ hm).mono ?_
      rintro e w4 ⟨rfl, rfl⟩
      rw [HQ.out]
      go_wp2_with fail
      refine (rpex_any _ _ hm).mono ?_
      rintro e w4 ⟨rfl, rfl⟩
      rw [HQ.out]
      go_wp2_with (first | (go_at_call 27; refine (cT_any _ _).mono ?_; rintro e w' ⟨rfl, hb2⟩; rw [HE.out Z1.out]) | (go_at_call 28; refine (ex_any _ _).mono ?_; rintro e w' ⟨rfl, hb3⟩; rw [HG.out Z2.out]))
      go_ret
      have s1 := hb1.size
      first
        | exact ⟨rfl, hb1⟩
        | exact ⟨rfl, hb1.trans (hb2.mono (by omega))⟩
        | exact ⟨rfl, hb1.trans (hb3.mono (by omega))⟩
        | (have s2 := hb2.size; exact ⟨rfl, hb1.trans ((hb2.mono (by omega)).trans (hb3.mono (by omega)))⟩)


theorem prs_zero {p m : UInt8} {c : Nat} {lo hi : Int} {s : ByteArray} (h : (prs p m c lo hi s).2 ≠ 0) : (prs p m c lo hi s).1 = 0 := by
  unfold prs at *
  by_cases h1 : pok s p m c
  · rw [if_pos h1] at h ⊢
    by_cases h2 : lo ≤ pval s m c ∧ pval s m c ≤ hi
    · rw [if_pos h2] at h; exact absurd rfl h
    · rw [if_neg h2]
  · rw [if_neg h1]
theorem ppos_zero {s : ByteArray} (h : (ppos s).2 ≠ 0) : (ppos s).1 = (0, 0) := by
  unfold ppos at *
  by_cases h1 : s.size = 19
  · rw [if_neg (by simp [h1])] at h ⊢
    by_cases h2 : (plat (s.extract 0 9)).2 = 0
    · rw [if_neg (by simp [h2])] at h ⊢
      by_cases h3 : (plon (s.extract 9 s.size)).2 = 0
      · rw [if_neg (by simp [h3])] at h; exact absurd rfl h
      · rw [if_pos h3]
    · rw [if_pos h2]
  · rw [if_pos h1]
/-- the readings of a text as a latitude, a longitude and a position. -/
theorem lat_split (s : ByteArray) : ∃ a e : Int, plat s = (a, e) ∧ (-32400000 ≤ a ∧ a ≤ 32400000) ∧ (e = 0 → (⟨(latT a).toArray⟩ : ByteArray) = s) := by
  refine ⟨(plat s).1, (plat s).2, rfl, ?_, fun h => (mk_back s _ (plat_back s h).1.symm).symm⟩
  by_cases h : (plat s).2 = 0
  · exact (plat_back s h).2
  · have : (plat s).1 = 0 := prs_zero h
    omega
theorem lon_split (s : ByteArray) : ∃ a e : Int, plon s = (a, e) ∧ (-64800000 < a ∧ a ≤ 64800000) ∧ (e = 0 → (⟨(lonT a).toArray⟩ : ByteArray) = s) := by
  refine ⟨(plon s).1, (plon s).2, rfl, ?_, fun h => (mk_back s _ (plon_back s h).1.symm).symm⟩
  by_cases h : (plon s).2 = 0
  · exact (plon_back s h).2
  · have : (plon s).1 = 0 := prs_zero h
    omega
theorem pos_split (s : ByteArray) : ∃ a b e : Int, ppos s = ((a, b), e) ∧ ((-32400000 ≤ a ∧ a ≤ 32400000) ∧ (-64800000 < b ∧ b ≤ 64800000)) ∧ (e = 0 → (⟨(latT a ++ lonT b).toArray⟩ : ByteArray) = s) := by
  refine ⟨(ppos s).1.1, (ppos s).1.2, (ppos s).2, rfl, ?_, fun h => (mk_back s _ (ppos_back s h).1.symm).symm⟩
  by_cases h : (ppos s).2 = 0
  · exact (ppos_back s h).2
  · rw [ppos_zero h]; omega
theorem bne_split (e : Int) : (e = 0 ∧ (e == 0) = true ∧ (e != 0) = false) ∨ (e ≠ 0 ∧ (e == 0) = false ∧ (e != 0) = true) := by
  by_cases h : e = 0
  · exact .inl ⟨h, by simp [h], by simp [h]⟩
  · exact .inr ⟨h, by simp [h], by simp [h]⟩
set_option maxHeartbeats 3200000 in
theorem angleParses_walk (s : ByteArray) (hm : s.size ≤ maxLen) (w : World) :
    Calls Try.prog 11 #[.string s] w fun e w' => e = .returned (.bool true) ∧ Below w.heap.size w w' := by
  obtain ⟨a, e, hP, ⟨a0, a1⟩, hPe⟩ := lat_split s
  obtain ⟨b, g, hQ, ⟨b0, b1⟩, hQe⟩ := lon_split s
  obtain ⟨c, d, k, hR, ⟨⟨c0, c1⟩, ⟨d0, d1⟩⟩, hRe⟩ := pos_split s
  have HP := Lib.hid hP
  have HQ := Lib.hid hQ
  have HR := Lib.hid hR
  have HE := Lib.hid hPe
  have HG := Lib.hid hQe
  have HK := Lib.hid hRe
  clear hP hQ hR hPe hQe hRe
  rcases bne_split e with ⟨z1, e1, f1⟩ | ⟨z1, e1, f1⟩ <;> rcases bne_split g with ⟨z2, e2, f2⟩ | ⟨z2, e2, f2⟩ <;> rcases bne_split k with ⟨z3, e3, f3⟩ | ⟨z3, e3, f3⟩
  all_goals
    have Z1 := Lib.hid z1
    have Z2 := Lib.hid z2
    have Z3 := Lib.hid z3
    clear z1 z2 z3
    go_enter Try.func11, Try.ntmps11
    go_wp2_with fail
    refine (awake_any _).mono ?_
    rintro e w1 ⟨rfl, hb1⟩
    go_wp2_with fail
    refine (pLat_any _ _ hm).mono ?_
    rintro e w2 ⟨rfl, hb2⟩
    rw [HP.out]
    go_wp2_with fail
    refine (rpLat_any _ _ hm).mono ?_
    rintro e w3 ⟨rfl, hb3⟩
    rw [HP.out]
    go_wp2_with fail
    refine (latT_any _ _ a0 a1).mono ?_
    rintro e w4 ⟨rfl, hb4⟩
    first | rw [show StrErr (latT a) 0 = Ending.returned (.tuple #[.string s, .int .i64 0]) from by unfold StrErr; rw [HE.out Z1.out]] | skip
    go_wp2_with fail
    refine (pLon_any _ _ hm).mono ?_
    rintro e w5 ⟨rfl, hb5⟩
    rw [HQ.out]
    go_wp2_with fail
    refine (rpLon_any _ _ hm).mono ?_
    rintro e w6 ⟨rfl, hb6⟩
    rw [HQ.out]
    go_wp2_with fail
    refine (lonT_any _ _ b0 b1).mono ?_
    rintro e w7 ⟨rfl, hb7⟩
    first | rw [show StrErr (lonT b) 0 = Ending.returned (.tuple #[.string s, .int .i64 0]) from by unfold StrErr; rw [HG.out Z2.out]] | skip
    go_wp2_with fail
    refine (pPos_any _ _ hm).mono ?_
    rintro e w8 ⟨rfl, hb8⟩
    rw [HR.out]
    go_wp2_with fail
    refine (rpPos_any _ _ hm).mono ?_
    rintro e w9 ⟨rfl, hb9⟩
    rw [HR.out]
    obtain ⟨c10, c11, f10, f11, l1⟩ := (two_new w8 (.int .i64 c) (.int .i64 d) 36).below hb9 (by simp)
    have hb9' := hb9.mono (B' := w8.heap.size) (by simp)
    go_wp2_with fail
    refine (posT_yes _ _ _ c0 c1 d0 d1).mono ?_
    rintro e w10 ⟨rfl, hb10⟩
    first | rw [show StrErr (latT c ++ lonT d) 0 = Ending.returned (.tuple #[.string s, .int .i64 0]) from by unfold StrErr; rw [HK.out Z3.out]] | skip
    go_wp2
    go_ret
    have s1 := hb1.size
    have s2 := hb2.size
    have s3 := hb3.size
    have s4 := hb4.size
    have s5 := hb5.size
    have s6 := hb6.size
    have s7 := hb7.size
    have s8 := hb8.size
    have s9 := hb9'.size
    have s9' : w8.heap.size ≤ w9.heap.size := by omega
    have hc9 := ((Below.refl w8.heap.size w8).alloc (Nat.le_refl _) _).trans hb9'
    have hc10 := ((Below.refl w9.heap.size w9).alloc (Nat.le_refl _) _).trans (hb10.mono (B' := w9.heap.size) (by simp))
    exact ⟨rfl, hb1.trans ((hb2.mono (by omega)).trans ((hb3.mono (by omega)).trans ((hb4.mono (by omega)).trans ((hb5.mono (by omega)).trans ((hb6.mono (by omega)).trans ((hb7.mono (by omega)).trans ((hb8.mono (by omega)).trans ((hc9.mono (by omega)).trans (hc10.mono (by omega))))))))))⟩

set_option maxHeartbeats 3200000 in
theorem anglePositions_walk (a b : Int) (_ : -9223372036854775808 ≤ a ∧ a ≤ 9223372036854775807) (_ : -9223372036854775808 ≤ b ∧ b ≤ 9223372036854775807) (w : World) :
    Calls Try.prog 10 #[.agg #[.int .i64 a, .int .i64 b]] w fun e w' => e = .returned (.bool true) ∧ Below w.heap.size w w' := by
  by_cases h1 : -32400000 ≤ a ∧ a ≤ 32400000 <;> by_cases h2 : -64800000 < b ∧ b ≤ 64800000
  · have HA := Lib.hid (plat_text a h1.1 h1.2)
    have HB := Lib.hid (plon_text b h2.1 h2.2)
    have HC := Lib.hid (ppos_text a b h1.1 h1.2 h2.1 h2.2)
    have hst := ba_app (latT a) (lonT b)
    have l1 : (latT a).length ≤ 20 := by unfold latT; rw [sgt_len]; omega
    have l2 : (lonT b).length ≤ 20 := by unfold lonT; rw [sgt_len]; omega
    have M1 := small_str (latT a) (by omega)
    have M2 := small_str (lonT b) (by omega)
    have M3 := small_str (latT a ++ lonT b) (by rw [List.length_append]; omega)
    go_enter Try.func10, Try.ntmps10
    go_wp2_with fail
    refine (awake_any _).mono ?_
    rintro e w1 ⟨rfl, hb1⟩
    have T1 := (two_new _ _ _ _).below hb1 (by simp)
    have B1 := ((Below.refl w.heap.size w).alloc (Nat.le_refl _) _).trans (hb1.mono (by simp))
    obtain ⟨c0, c1, f0, f1, lt⟩ := id T1
    go_wp2_with fail
    refine (latT_any _ _ h1.1 h1.2).mono ?_
    rintro e w2 ⟨rfl, hb2⟩
    have T2 := T1.below (B := w1.heap.size) (hb2 : Below w1.heap.size w1 w2) T1.lt
    have B2 := B1.trans ((hb2 : Below w1.heap.size w1 w2).mono B1.size)
    clear c0 c1 f0 f1 lt hb2
    obtain ⟨c0, c1, f0, f1, lt⟩ := id T2
    go_wp2_with fail
    refine (lonT_any _ _ h2.1 h2.2).mono ?_
    rintro e w3 ⟨rfl, hb3⟩
    have T3 := T2.below (B := w2.heap.size) (hb3 : Below w2.heap.size w2 w3) T2.lt
    have B3 := B2.trans ((hb3 : Below w2.heap.size w2 w3).mono B2.size)
    clear c0 c1 f0 f1 lt hb3
    obtain ⟨c0, c1, f0, f1, lt⟩ := id T3
    go_wp2_with fail
    refine (posT_yes _ _ _ h1.1 h1.2 h2.1 h2.2).mono ?_
    rintro e w4 ⟨rfl, hb4⟩
    have T4 := T3.below hb4 T3.lt
    have B4 := B3.trans (hb4.mono B3.size)
    clear c0 c1 f0 f1 lt hb4
    obtain ⟨c0, c1, f0, f1, lt⟩ := id T4
    go_wp2_with fail
    refine (rlatT_any _ _ h1.1 h1.2).mono ?_
    rintro e w5 ⟨rfl, hb5⟩
    have T5 := T4.below (B := w4.heap.size) (hb5 : Below w4.heap.size w4 w5) T4.lt
    have B5 := B4.trans ((hb5 : Below w4.heap.size w4 w5).mono B4.size)
    clear c0 c1 f0 f1 lt hb5
    obtain ⟨c0, c1, f0, f1, lt⟩ := id T5
    go_wp2_with fail
    refine (rlonT_any _ _ h2.1 h2.2).mono ?_
    rintro e w6 ⟨rfl, hb6⟩
    have T6 := T5.below (B := w5.heap.size) (hb6 : Below w5.heap.size w5 w6) T5.lt
    have B6 := B5.trans ((hb6 : Below w5.heap.size w5 w6).mono B5.size)
    clear c0 c1 f0 f1 lt hb6
    obtain ⟨c0, c1, f0, f1, lt⟩ := id T6
    go_wp2_with fail
    refine (pLat_any _ _ M1).mono ?_
    rintro e w7 ⟨rfl, hb7⟩
    rw [HA.out]
    have T7 := T6.below hb7 T6.lt
    have B7 := B6.trans (hb7.mono B6.size)
    clear c0 c1 f0 f1 lt hb7
    obtain ⟨c0, c1, f0, f1, lt⟩ := id T7
    go_wp2_with fail
    refine (pLon_any _ _ M2).mono ?_
    rintro e w8 ⟨rfl, hb8⟩
    rw [HB.out]
    have T8 := T7.below hb8 T7.lt
    have B8 := B7.trans (hb8.mono B7.size)
    clear c0 c1 f0 f1 lt hb8
    obtain ⟨c0, c1, f0, f1, lt⟩ := id T8
    go_wp2_with fail
    refine (pPos_any _ _ M3).mono ?_
    rintro e w9 ⟨rfl, hb9⟩
    rw [HC.out]
    have T9 := T8.below hb9 T8.lt
    have B9 := B8.trans (hb9.mono B8.size)
    clear c0 c1 f0 f1 lt hb9
    obtain ⟨c0, c1, f0, f1, lt⟩ := id T9
    go_wp2
    go_ret
    exact ⟨rfl, B9.alloc B9.size _⟩
  · have h3 : ¬ ((-32400000 ≤ a ∧ a ≤ 32400000) ∧ (-64800000 < b ∧ b ≤ 64800000)) := fun h => by first | exact h1 h.1 | exact h2 h.2
    have H1 := Lib.hid h1
    have H2 := Lib.hid h2
    go_enter Try.func10, Try.ntmps10
    go_wp2_with fail
    refine (awake_any _).mono ?_
    rintro e w1 ⟨rfl, hb1⟩
    have T1 := (two_new _ _ _ _).below hb1 (by simp)
    have B1 := ((Below.refl w.heap.size w).alloc (Nat.le_refl _) _).trans (hb1.mono (by simp))
    obtain ⟨c0, c1, f0, f1, lt⟩ := id T1
    go_wp2_with fail
    refine (latT_any _ _ h1.1 h1.2).mono ?_
    rintro e w2 ⟨rfl, hb2⟩
    have T2 := T1.below (B := w1.heap.size) (hb2 : Below w1.heap.size w1 w2) T1.lt
    have B2 := B1.trans ((hb2 : Below w1.heap.size w1 w2).mono B1.size)
    clear c0 c1 f0 f1 lt hb2
    obtain ⟨c0, c1, f0, f1, lt⟩ := id T2
    go_wp2_with fail
    refine (lonT_no _ _ h2).mono ?_
    rintro e w3 ⟨rfl, hb3⟩
    have T3 := T2.below (B := w2.heap.size) (by subst hb3; exact Below.refl _ _ : Below w2.heap.size w2 w3) T2.lt
    have B3 := B2.trans ((by subst hb3; exact Below.refl _ _ : Below w2.heap.size w2 w3).mono B2.size)
    clear c0 c1 f0 f1 lt hb3
    obtain ⟨c0, c1, f0, f1, lt⟩ := id T3
    go_wp2_with fail
    refine (posT_no _ _ _ h3).mono ?_
    rintro e w4 ⟨rfl, hb4⟩
    have T4 := T3.below hb4 T3.lt
    have B4 := B3.trans (hb4.mono B3.size)
    clear c0 c1 f0 f1 lt hb4
    obtain ⟨c0, c1, f0, f1, lt⟩ := id T4
    go_wp2_with fail
    refine (rlatT_any _ _ h1.1 h1.2).mono ?_
    rintro e w5 ⟨rfl, hb5⟩
    have T5 := T4.below (B := w4.heap.size) (hb5 : Below w4.heap.size w4 w5) T4.lt
    have B5 := B4.trans ((hb5 : Below w4.heap.size w4 w5).mono B4.size)
    clear c0 c1 f0 f1 lt hb5
    obtain ⟨c0, c1, f0, f1, lt⟩ := id T5
    go_wp2_with fail
    refine (rlonT_no _ _ h2).mono ?_
    rintro e w6 ⟨rfl, hb6⟩
    have T6 := T5.below (B := w5.heap.size) (by subst hb6; exact Below.refl _ _ : Below w5.heap.size w5 w6) T5.lt
    have B6 := B5.trans ((by subst hb6; exact Below.refl _ _ : Below w5.heap.size w5 w6).mono B5.size)
    clear c0 c1 f0 f1 lt hb6
    obtain ⟨c0, c1, f0, f1, lt⟩ := id T6
    clear h1 h2 h3
    go_wp2
    go_ret
    exact ⟨rfl, B6⟩
  · have h3 : ¬ ((-32400000 ≤ a ∧ a ≤ 32400000) ∧ (-64800000 < b ∧ b ≤ 64800000)) := fun h => by first | exact h1 h.1 | exact h2 h.2
    have H1 := Lib.hid h1
    have H2 := Lib.hid h2
    go_enter Try.func10, Try.ntmps10
    go_wp2_with fail
    refine (awake_any _).mono ?_
    rintro e w1 ⟨rfl, hb1⟩
    have T1 := (two_new _ _ _ _).below hb1 (by simp)
    have B1 := ((Below.refl w.heap.size w).alloc (Nat.le_refl _) _).trans (hb1.mono (by simp))
    obtain ⟨c0, c1, f0, f1, lt⟩ := id T1
    go_wp2_with fail
    refine (latT_no _ _ h1).mono ?_
    rintro e w2 ⟨rfl, hb2⟩
    have T2 := T1.below (B := w1.heap.size) (by subst hb2; exact Below.refl _ _ : Below w1.heap.size w1 w2) T1.lt
    have B2 := B1.trans ((by subst hb2; exact Below.refl _ _ : Below w1.heap.size w1 w2).mono B1.size)
    clear c0 c1 f0 f1 lt hb2
    obtain ⟨c0, c1, f0, f1, lt⟩ := id T2
    go_wp2_with fail
    refine (lonT_any _ _ h2.1 h2.2).mono ?_
    rintro e w3 ⟨rfl, hb3⟩
    have T3 := T2.below (B := w2.heap.size) (hb3 : Below w2.heap.size w2 w3) T2.lt
    have B3 := B2.trans ((hb3 : Below w2.heap.size w2 w3).mono B2.size)
    clear c0 c1 f0 f1 lt hb3
    obtain ⟨c0, c1, f0, f1, lt⟩ := id T3
    go_wp2_with fail
    refine (posT_no _ _ _ h3).mono ?_
    rintro e w4 ⟨rfl, hb4⟩
    have T4 := T3.below hb4 T3.lt
    have B4 := B3.trans (hb4.mono B3.size)
    clear c0 c1 f0 f1 lt hb4
    obtain ⟨c0, c1, f0, f1, lt⟩ := id T4
    go_wp2_with fail
    refine (rlatT_no _ _ h1).mono ?_
    rintro e w5 ⟨rfl, hb5⟩
    have T5 := T4.below (B := w4.heap.size) (by subst hb5; exact Below.refl _ _ : Below w4.heap.size w4 w5) T4.lt
    have B5 := B4.trans ((by subst hb5; exact Below.refl _ _ : Below w4.heap.size w4 w5).mono B4.size)
    clear c0 c1 f0 f1 lt hb5
    obtain ⟨c0, c1, f0, f1, lt⟩ := id T5
    go_wp2_with fail
    refine (rlonT_any _ _ h2.1 h2.2).mono ?_
    rintro e w6 ⟨rfl, hb6⟩
    have T6 := T5.below (B := w5.heap.size) (hb6 : Below w5.heap.size w5 w6) T5.lt
    have B6 := B5.trans ((hb6 : Below w5.heap.size w5 w6).mono B5.size)
    clear c0 c1 f0 f1 lt hb6
    obtain ⟨c0, c1, f0, f1, lt⟩ := id T6
    clear h1 h2 h3
    go_wp2
    go_ret
    exact ⟨rfl, B6⟩
  · have h3 : ¬ ((-32400000 ≤ a ∧ a ≤ 32400000) ∧ (-64800000 < b ∧ b ≤ 64800000)) := fun h => by first | exact h1 h.1 | exact h2 h.2
    have H1 := Lib.hid h1
    have H2 := Lib.hid h2
    go_enter Try.func10, Try.ntmps10
    go_wp2_with fail
    refine (awake_any _).mono ?_
    rintro e w1 ⟨rfl, hb1⟩
    have T1 := (two_new _ _ _ _).below hb1 (by simp)
    have B1 := ((Below.refl w.heap.size w).alloc (Nat.le_refl _) _).trans (hb1.mono (by simp))
    obtain ⟨c0, c1, f0, f1, lt⟩ := id T1
    go_wp2_with fail
    refine (latT_no _ _ h1).mono ?_
    rintro e w2 ⟨rfl, hb2⟩
    have T2 := T1.below (B := w1.heap.size) (by subst hb2; exact Below.refl _ _ : Below w1.heap.size w1 w2) T1.lt
    have B2 := B1.trans ((by subst hb2; exact Below.refl _ _ : Below w1.heap.size w1 w2).mono B1.size)
    clear c0 c1 f0 f1 lt hb2
    obtain ⟨c0, c1, f0, f1, lt⟩ := id T2
    go_wp2_with fail
    refine (lonT_no _ _ h2).mono ?_
    rintro e w3 ⟨rfl, hb3⟩
    have T3 := T2.below (B := w2.heap.size) (by subst hb3; exact Below.refl _ _ : Below w2.heap.size w2 w3) T2.lt
    have B3 := B2.trans ((by subst hb3; exact Below.refl _ _ : Below w2.heap.size w2 w3).mono B2.size)
    clear c0 c1 f0 f1 lt hb3
    obtain ⟨c0, c1, f0, f1, lt⟩ := id T3
    go_wp2_with fail
    refine (posT_no _ _ _ h3).mono ?_
    rintro e w4 ⟨rfl, hb4⟩
    have T4 := T3.below hb4 T3.lt
    have B4 := B3.trans (hb4.mono B3.size)
    clear c0 c1 f0 f1 lt hb4
    obtain ⟨c0, c1, f0, f1, lt⟩ := id T4
    go_wp2_with fail
    refine (rlatT_no _ _ h1).mono ?_
    rintro e w5 ⟨rfl, hb5⟩
    have T5 := T4.below (B := w4.heap.size) (by subst hb5; exact Below.refl _ _ : Below w4.heap.size w4 w5) T4.lt
    have B5 := B4.trans ((by subst hb5; exact Below.refl _ _ : Below w4.heap.size w4 w5).mono B4.size)
    clear c0 c1 f0 f1 lt hb5
    obtain ⟨c0, c1, f0, f1, lt⟩ := id T5
    go_wp2_with fail
    refine (rlonT_no _ _ h2).mono ?_
    rintro e w6 ⟨rfl, hb6⟩
    have T6 := T5.below (B := w5.heap.size) (by subst hb6; exact Below.refl _ _ : Below w5.heap.size w5 w6) T5.lt
    have B6 := B5.trans ((by subst hb6; exact Below.refl _ _ : Below w5.heap.size w5 w6).mono B5.size)
    clear c0 c1 f0 f1 lt hb6
    obtain ⟨c0, c1, f0, f1, lt⟩ := id T6
    clear h1 h2 h3
    go_wp2
    go_ret
    exact ⟨rfl, B6⟩
end Go.Proofs.Ytfkpplamhijgcaa
