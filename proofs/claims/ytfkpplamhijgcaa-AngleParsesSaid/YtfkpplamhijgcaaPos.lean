/- Positions and courses: texts and their reading, on both sides. -/
import Derived.Test.YtfkpplamhijgcaaPar3
import Derived.Test.YtfkpplamhijgcaaRStr
namespace Go.Proofs.Ytfkpplamhijgcaa
open Go.RowKit
set_option linter.unusedVariables false

open Classical in
noncomputable def ppos (s : ByteArray) : (Int × Int) × Int :=
  if s.size ≠ 19 then ((0, 0), 4) else if (plat (s.extract 0 9)).2 ≠ 0 then ((0, 0), (plat (s.extract 0 9)).2) else
  if (plon (s.extract 9 s.size)).2 ≠ 0 then ((0, 0), (plon (s.extract 9 s.size)).2) else (((plat (s.extract 0 9)).1, (plon (s.extract 9 s.size)).1), 0)
abbrev posV (a b e : Int) : Value := .tuple #[.agg #[.int .i64 a, .int .i64 b], .int .i64 e]
abbrev PosErr (p : (Int × Int) × Int) : Ending := .returned (posV p.1.1 p.1.2 p.2)
theorem pe (p : (Int × Int) × Int) (a b e : Int) (h : p = ((a, b), e)) : Ending.returned (posV a b e) = PosErr p := by rw [h]
theorem ext9_size (s : ByteArray) (h : s.size = 19) : (s.extract 0 9).size ≤ maxLen ∧ (s.extract 9 s.size).size ≤ maxLen := by
  unfold maxLen; simp; omega

/-- a block of two cells, as it was laid. -/
structure Two (w : World) (b : Nat) (x y : Value) : Prop where
  c0 : w.cell? ⟨b, 0, none⟩ = some x
  c1 : w.cell? ⟨b, 1, none⟩ = some y
  f0 : w.frozen? ⟨b, 0, none⟩ = false
  f1 : w.frozen? ⟨b, 1, none⟩ = false
  lt : b < w.heap.size
theorem two_new (w : World) (x y : Value) (t : TypeId) : Two (w.alloc (.cells #[x, y] t)) w.heap.size x y := by
  have e : (w.alloc (.cells #[x, y] t)).heap[w.heap.size]? = some (.cells #[x, y] t) := by show (w.heap.push _)[w.heap.size]? = _; simp
  exact ⟨by simp only [World.cell?, e]; rfl, by simp only [World.cell?, e]; rfl, by simp only [World.frozen?, e]; rfl, by simp only [World.frozen?, e]; rfl, by show _ < (w.heap.push _).size; simp⟩
theorem Two.below {w w1 : World} {b B : Nat} {x y : Value} (h : Two w b x y) (hb : Below B w w1) (hB : b < B) : Two w1 b x y :=
  ⟨(hb.cell (p := ⟨b, 0, none⟩) hB).trans h.c0, (hb.cell (p := ⟨b, 1, none⟩) hB).trans h.c1, (hb.frozen (p := ⟨b, 0, none⟩) hB).trans h.f0, (hb.frozen (p := ⟨b, 1, none⟩) hB).trans h.f1, Nat.lt_of_lt_of_le h.lt hb.size⟩
theorem bcell {W w1 : World} (hb : Below W.heap.size W w1) : (∀ b o, b < W.heap.size → w1.cell? ⟨b, o, none⟩ = W.cell? ⟨b, o, none⟩) ∧ (∀ b o, b < W.heap.size → w1.frozen? ⟨b, o, none⟩ = W.frozen? ⟨b, o, none⟩) :=
  ⟨fun b o h => hb.cell (p := ⟨b, o, none⟩) h, fun b o h => hb.frozen (p := ⟨b, o, none⟩) h⟩

set_option maxHeartbeats 1600000 in
theorem pPos_any (s : ByteArray) (w : World) (hm : s.size ≤ maxLen) :
    Calls Try.prog 42 #[.string s] w fun e w' => e = PosErr (ppos s) ∧ Below w.heap.size w w' := by
  by_cases h1 : s.size = 19
  · have hsz : ((s.size : Int) != 19) = false := by simp; omega
    have hs1 : s.size ≤ 19 := by omega
    have hs2 : 19 ≤ s.size := by omega
    have ⟨m1, m2⟩ := ext9_size s h1
    have H1 := Lib.hid h1
    clear h1
    go_enter Try.func42, Try.ntmps42
    go_wp2_with fail
    refine (pLat_any (s.extract 0 9) _ m1).mono ?_
    rintro e w1 ⟨rfl, hb1⟩
    have T1 := (two_new _ _ _ _).below hb1 (by simp)
    have hB1 := ((Below.refl w.heap.size w).alloc (Nat.le_refl _) _).trans (hb1.mono (by simp))
    obtain ⟨c10, c11, f10, f11, _⟩ := id T1
    generalize hP : plat (s.extract 0 9) = P at *
    have HP := Lib.hid hP
    clear hP
    obtain ⟨a, ea⟩ := P
    by_cases hea : ea = 0
    · subst hea
      go_wp2_with fail
      refine (pLon_any (s.extract 9 s.size) _ m2).mono ?_
      rintro e w2 ⟨rfl, hb2⟩
      have T2 := T1.below hb2 T1.lt
      have hB2 := hB1.trans (hb2.mono hB1.size)
      clear c10 c11 f10 f11
      obtain ⟨c10, c11, f10, f11, _⟩ := id T2
      generalize hQ : plon (s.extract 9 s.size) = Q at *
      have HQ := Lib.hid hQ
      clear hQ
      obtain ⟨b, eb⟩ := Q
      by_cases heb : eb = 0
      · subst heb
        have hfin : Hid (ppos s = ((a, b), 0)) := by show ppos s = _; unfold ppos; rw [HP.out, HQ.out, if_neg (by rw [H1.out]; simp), if_neg (by simp), if_neg (by simp)]
        go_wp2
        exact bodyPost_ret (v := posV a b 0) (by simp [results, Try.results42, go_sem, *]) rfl ⟨pe _ _ _ _ hfin.out, (hB2.setCell (p := ⟨w.heap.size, 0, none⟩) (Nat.le_refl _) _).setCell (p := ⟨w.heap.size, 1, none⟩) (Nat.le_refl _) _⟩
      · have hb0 : (eb != 0) = true := by rw [bne_iff_ne]; exact heb
        have hfin : Hid (ppos s = ((0, 0), eb)) := by show ppos s = _; unfold ppos; rw [HP.out, HQ.out, if_neg (by rw [H1.out]; simp), if_neg (by simp), if_pos heb]
        clear heb
        go_wp2
        exact bodyPost_ret (v := posV 0 0 eb) (by simp [results, Try.results42, go_sem, *]) rfl ⟨pe _ _ _ _ hfin.out, (hB2.setCell (p := ⟨w.heap.size, 0, none⟩) (Nat.le_refl _) _).setCell (p := ⟨w.heap.size, 1, none⟩) (Nat.le_refl _) _⟩
    · have hb0 : (ea != 0) = true := by rw [bne_iff_ne]; exact hea
      have hfin : Hid (ppos s = ((0, 0), ea)) := by show ppos s = _; unfold ppos; rw [HP.out, if_neg (by rw [H1.out]; simp), if_pos hea]
      clear hea
      go_wp2
      exact bodyPost_ret (v := posV 0 0 ea) (by simp [results, Try.results42, go_sem, *]) rfl ⟨pe _ _ _ _ hfin.out, (hB1.setCell (p := ⟨w.heap.size, 0, none⟩) (Nat.le_refl _) _).setCell (p := ⟨w.heap.size, 1, none⟩) (Nat.le_refl _) _⟩
  · have hsz : ((s.size : Int) != 19) = true := by simp; omega
    have hfin : Hid (ppos s = ((0, 0), 4)) := by show ppos s = _; unfold ppos; rw [if_pos h1]
    clear h1
    go_enter Try.func42, Try.ntmps42
    go_wp2
    exact bodyPost_ret (v := posV 0 0 4) (by simp [results, Try.results42, go_sem, *]) rfl ⟨pe _ _ _ _ hfin.out, by repeat (first | exact Below.refl _ _ | refine Below.alloc ?_ (Nat.le_refl _) _)⟩

set_option maxHeartbeats 1600000 in
theorem rpPos_any (s : ByteArray) (w : World) (hm : s.size ≤ maxLen) :
    Calls Try.prog 45 #[.string s] w fun e w' => e = PosErr (ppos s) ∧ Below w.heap.size w w' := by
  by_cases h1 : s.size = 19
  · have hsz : ((s.size : Int) != 19) = false := by simp; omega
    have hs1 : s.size ≤ 19 := by omega
    have hs2 : 19 ≤ s.size := by omega
    have ⟨m1, m2⟩ := ext9_size s h1
    have H1 := Lib.hid h1
    clear h1
    go_enter Try.func45, Try.ntmps45
    go_wp2_with fail
    refine (rpLat_any (s.extract 0 9) _ m1).mono ?_
    rintro e w1 ⟨rfl, hb1⟩
    have T1 := (two_new _ _ _ _).below hb1 (by simp)
    have hB1 := ((Below.refl w.heap.size w).alloc (Nat.le_refl _) _).trans (hb1.mono (by simp))
    obtain ⟨c10, c11, f10, f11, _⟩ := id T1
    generalize hP : plat (s.extract 0 9) = P at *
    have HP := Lib.hid hP
    clear hP
    obtain ⟨a, ea⟩ := P
    by_cases hea : ea = 0
    · subst hea
      go_wp2_with fail
      refine (rpLon_any (s.extract 9 s.size) _ m2).mono ?_
      rintro e w2 ⟨rfl, hb2⟩
      have T2 := T1.below hb2 T1.lt
      have hB2 := hB1.trans (hb2.mono hB1.size)
      clear c10 c11 f10 f11
      obtain ⟨c10, c11, f10, f11, _⟩ := id T2
      generalize hQ : plon (s.extract 9 s.size) = Q at *
      have HQ := Lib.hid hQ
      clear hQ
      obtain ⟨b, eb⟩ := Q
      by_cases heb : eb = 0
      · subst heb
        have hfin : Hid (ppos s = ((a, b), 0)) := by show ppos s = _; unfold ppos; rw [HP.out, HQ.out, if_neg (by rw [H1.out]; simp), if_neg (by simp), if_neg (by simp)]
        go_wp2
        exact bodyPost_ret (v := posV a b 0) (by simp [results, Try.results45, go_sem, *]) rfl ⟨pe _ _ _ _ hfin.out, (hB2.setCell (p := ⟨w.heap.size, 0, none⟩) (Nat.le_refl _) _).setCell (p := ⟨w.heap.size, 1, none⟩) (Nat.le_refl _) _⟩
      · have hb0 : (eb != 0) = true := by rw [bne_iff_ne]; exact heb
        have hfin : Hid (ppos s = ((0, 0), eb)) := by show ppos s = _; unfold ppos; rw [HP.out, HQ.out, if_neg (by rw [H1.out]; simp), if_neg (by simp), if_pos heb]
        clear heb
        go_wp2
        exact bodyPost_ret (v := posV 0 0 eb) (by simp [results, Try.results45, go_sem, *]) rfl ⟨pe _ _ _ _ hfin.out, (hB2.setCell (p := ⟨w.heap.size, 0, none⟩) (Nat.le_refl _) _).setCell (p := ⟨w.heap.size, 1, none⟩) (Nat.le_refl _) _⟩
    · have hb0 : (ea != 0) = true := by rw [bne_iff_ne]; exact hea
      have hfin : Hid (ppos s = ((0, 0), ea)) := by show ppos s = _; unfold ppos; rw [HP.out, if_neg (by rw [H1.out]; simp), if_pos hea]
      clear hea
      go_wp2
      exact bodyPost_ret (v := posV 0 0 ea) (by simp [results, Try.results45, go_sem, *]) rfl ⟨pe _ _ _ _ hfin.out, (hB1.setCell (p := ⟨w.heap.size, 0, none⟩) (Nat.le_refl _) _).setCell (p := ⟨w.heap.size, 1, none⟩) (Nat.le_refl _) _⟩
  · have hsz : ((s.size : Int) != 19) = true := by simp; omega
    have hfin : Hid (ppos s = ((0, 0), 4)) := by show ppos s = _; unfold ppos; rw [if_pos h1]
    clear h1
    go_enter Try.func45, Try.ntmps45
    go_wp2
    exact bodyPost_ret (v := posV 0 0 4) (by simp [results, Try.results45, go_sem, *]) rfl ⟨pe _ _ _ _ hfin.out, by repeat (first | exact Below.refl _ _ | refine Below.alloc ?_ (Nat.le_refl _) _)⟩

open Classical in
noncomputable def pcrs (s : ByteArray) : Int × Int := if s.size = 4 ∧ alld s.data.toList = true then (if numv s.data.toList ≥ 3600 then (0, 2) else (numv s.data.toList * 36000, 0)) else (0, 4)
open Classical in
noncomputable def pex (s : ByteArray) : Int × Int := if jok s 3 then (if jval s 3 ≥ 129600000 then (0, 2) else (jval s 3, 0)) else (0, 4)
theorem pw4' (s : ByteArray) (h : s.size = 4) (h2 : alld s.data.toList = true) : 0 ≤ numv s.data.toList ∧ numv s.data.toList < 10000 := by
  have := numv_b _ h2
  rw [show s.data.toList.length = 4 from h, pw4] at this; exact this

set_option maxHeartbeats 800000 in
theorem pcrs_any (s : ByteArray) (w : World) (hm : s.size ≤ maxLen) :
    Calls Try.prog 29 #[.string s] w fun e w' => e = IntErr (pcrs s) ∧ w = w' := by
  by_cases h1 : s.size = 4
  · have hsz : ((s.size : Int) != 4) = false := by simp; omega
    have hs1 : s.size ≤ 17 := by omega
    have H1 := Lib.hid h1
    by_cases h2 : alld s.data.toList = true
    · have ⟨b0, b1⟩ := pw4' s h1 h2
      have HS := Lib.hid h2
      clear h1 h2
      go_enter Try.func29, Try.ntmps29
      go_wp2_with fail
      refine (number_any s _ hs1).mono ?_
      rintro e w' ⟨rfl, rfl⟩
      have e1 : numw s.data.toList = numv s.data.toList := by unfold numw; rw [if_pos HS.out]
      rw [e1, HS.out]
      clear e1
      generalize hv : numv s.data.toList = v at *
      have HV := Lib.hid hv
      clear hv
      by_cases hr : v < 3600
      · have hfin : Hid (pcrs s = (v * 36000, 0)) := by show pcrs s = _; unfold pcrs; rw [if_pos ⟨H1.out, HS.out⟩, HV.out, if_neg (by omega)]
        go_wp2
        go_ret2
        exact ⟨ie _ _ _ hfin.out, rfl⟩
      · have hfin : Hid (pcrs s = (0, 2)) := by show pcrs s = _; unfold pcrs; rw [if_pos ⟨H1.out, HS.out⟩, HV.out, if_pos (by omega)]
        go_wp2
        go_ret2
        exact ⟨ie _ _ _ hfin.out, rfl⟩
    · have h3 : alld s.data.toList = false := by simpa using h2
      have hfin : Hid (pcrs s = (0, 4)) := by show pcrs s = _; unfold pcrs; rw [if_neg (fun h => h2 h.2)]
      clear h1 h2
      go_enter Try.func29, Try.ntmps29
      go_wp2_with fail
      refine (number_any s _ hs1).mono ?_
      rintro e w' ⟨rfl, rfl⟩
      go_wp2
      go_ret2
      exact ⟨ie _ _ _ hfin.out, rfl⟩
  · have hsz : ((s.size : Int) != 4) = true := by simp; omega
    have hfin : Hid (pcrs s = (0, 4)) := by show pcrs s = _; unfold pcrs; rw [if_neg (fun h => h1 h.1)]
    clear h1
    go_enter Try.func29, Try.ntmps29
    go_wp2_with fail
    refine (number_long s _ hm).mono ?_
    rintro e w' ⟨⟨n, b, rfl⟩, rfl⟩
    cases b
    all_goals
      go_wp2
      go_ret2
      exact ⟨ie _ _ _ hfin.out, rfl⟩
set_option maxHeartbeats 800000 in
theorem pex_any (s : ByteArray) (w : World) (hm : s.size ≤ maxLen) :
    Calls Try.prog 30 #[.string s] w fun e w' => e = IntErr (pex s) ∧ w = w' := by
  go_enter Try.func30, Try.ntmps30
  go_wp2_with fail
  refine (join_any s 3 _ hm (by omega)).mono ?_
  rintro e w' ⟨⟨hj, rfl⟩ | ⟨hj, rfl⟩, rfl⟩
  · have ⟨v0, v1⟩ := jval_b _ _ hj (by omega)
    generalize hv : jval s 3 = v at *
    have HV := Lib.hid hv
    have HJ := Lib.hid hj
    clear hv hj
    by_cases hr : v < 129600000
    · have hfin : Hid (pex s = (v, 0)) := by show pex s = _; unfold pex; rw [if_pos HJ.out, HV.out, if_neg (by omega)]
      go_wp2
      go_ret2
      exact ⟨ie _ _ _ hfin.out, rfl⟩
    · have hfin : Hid (pex s = (0, 2)) := by show pex s = _; unfold pex; rw [if_pos HJ.out, HV.out, if_pos (by omega)]
      go_wp2
      go_ret2
      exact ⟨ie _ _ _ hfin.out, rfl⟩
  · have hfin : Hid (pex s = (0, 4)) := by show pex s = _; unfold pex; rw [if_neg hj]
    clear hj
    go_wp2
    go_ret2
    exact ⟨ie _ _ _ hfin.out, rfl⟩

set_option maxHeartbeats 800000 in
theorem rpcrs_any (s : ByteArray) (w : World) (hm : s.size ≤ maxLen) :
    Calls Try.prog 33 #[.string s] w fun e w' => e = IntErr (pcrs s) ∧ w = w' := by
  by_cases h1 : s.size = 4
  · have hsz : ((s.size : Int) != 4) = false := by simp; omega
    have hs1 : s.size ≤ 17 := by omega
    have H1 := Lib.hid h1
    by_cases h2 : alld s.data.toList = true
    · have ⟨b0, b1⟩ := pw4' s h1 h2
      have HS := Lib.hid h2
      clear h1 h2
      go_enter Try.func33, Try.ntmps33
      go_wp2_with fail
      refine (value_any s _ hs1).mono ?_
      rintro e w' ⟨rfl, rfl⟩
      have e1 : numw s.data.toList = numv s.data.toList := by unfold numw; rw [if_pos HS.out]
      rw [e1, HS.out]
      clear e1
      generalize hv : numv s.data.toList = v at *
      have HV := Lib.hid hv
      clear hv
      by_cases hr : v < 3600
      · have hfin : Hid (pcrs s = (v * 36000, 0)) := by show pcrs s = _; unfold pcrs; rw [if_pos ⟨H1.out, HS.out⟩, HV.out, if_neg (by omega)]
        go_wp2
        go_ret2
        exact ⟨ie _ _ _ hfin.out, rfl⟩
      · have hfin : Hid (pcrs s = (0, 2)) := by show pcrs s = _; unfold pcrs; rw [if_pos ⟨H1.out, HS.out⟩, HV.out, if_pos (by omega)]
        go_wp2
        go_ret2
        exact ⟨ie _ _ _ hfin.out, rfl⟩
    · have h3 : alld s.data.toList = false := by simpa using h2
      have hfin : Hid (pcrs s = (0, 4)) := by show pcrs s = _; unfold pcrs; rw [if_neg (fun h => h2 h.2)]
      clear h1 h2
      go_enter Try.func33, Try.ntmps33
      go_wp2_with fail
      refine (value_any s _ hs1).mono ?_
      rintro e w' ⟨rfl, rfl⟩
      go_wp2
      go_ret2
      exact ⟨ie _ _ _ hfin.out, rfl⟩
  · have hsz : ((s.size : Int) != 4) = true := by simp; omega
    have hfin : Hid (pcrs s = (0, 4)) := by show pcrs s = _; unfold pcrs; rw [if_neg (fun h => h1 h.1)]
    clear h1
    go_enter Try.func33, Try.ntmps33
    go_wp2_with fail
    refine (value_long s _ hm).mono ?_
    rintro e w' ⟨⟨n, b, rfl⟩, rfl⟩
    cases b
    all_goals
      go_wp2
      go_ret2
      exact ⟨ie _ _ _ hfin.out, rfl⟩
set_option maxHeartbeats 800000 in
theorem rpex_any (s : ByteArray) (w : World) (hm : s.size ≤ maxLen) :
    Calls Try.prog 34 #[.string s] w fun e w' => e = IntErr (pex s) ∧ w = w' := by
  go_enter Try.func34, Try.ntmps34
  go_wp2_with fail
  refine (rangle_any s 3 _ hm (by omega)).mono ?_
  rintro e w' ⟨⟨hj, rfl⟩ | ⟨hj, rfl⟩, rfl⟩
  · have ⟨v0, v1⟩ := jval_b _ _ hj (by omega)
    generalize hv : jval s 3 = v at *
    have HV := Lib.hid hv
    have HJ := Lib.hid hj
    clear hv hj
    by_cases hr : v < 129600000
    · have hfin : Hid (pex s = (v, 0)) := by show pex s = _; unfold pex; rw [if_pos HJ.out, HV.out, if_neg (by omega)]
      go_wp2
      go_ret2
      exact ⟨ie _ _ _ hfin.out, rfl⟩
    · have hfin : Hid (pex s = (0, 2)) := by show pex s = _; unfold pex; rw [if_pos HJ.out, HV.out, if_pos (by omega)]
      go_wp2
      go_ret2
      exact ⟨ie _ _ _ hfin.out, rfl⟩
  · have hfin : Hid (pex s = (0, 4)) := by show pex s = _; unfold pex; rw [if_neg hj]
    clear hj
    go_wp2
    go_ret2
    exact ⟨ie _ _ _ hfin.out, rfl⟩


set_option maxHeartbeats 800000 in
theorem posT_yes (a b : Int) (w : World) (h0 : -32400000 ≤ a) (h1 : a ≤ 32400000) (h2 : -64800000 < b) (h3 : b ≤ 64800000) :
    Calls Try.prog 37 #[.agg #[.int .i64 a, .int .i64 b]] w fun e w' => e = StrErr (latT a ++ lonT b) 0 ∧ Below w.heap.size w w' := by
  have l1 : (latT a).length ≤ 20 := by unfold latT; rw [sgt_len]; omega
  have l2 : (lonT b).length ≤ 20 := by unfold lonT; rw [sgt_len]; omega
  go_enter Try.func37, Try.ntmps37
  go_wp2_with fail
  refine (latT_any a _ h0 h1).mono ?_
  rintro e w1 ⟨rfl, hb1⟩
  have T1 := (two_new _ _ _ _).below hb1 (by simp)
  have hB1 := ((Below.refl w.heap.size w).alloc (Nat.le_refl _) _).trans (hb1.mono (by simp))
  obtain ⟨c10, c11, f10, f11, _⟩ := id T1
  go_wp2_with fail
  refine (lonT_any b _ h2 h3).mono ?_
  rintro e w2 ⟨rfl, hb2⟩
  have hB2 := hB1.trans (hb2.mono hB1.size)
  have E := Lib.hid (ba_app (latT a) (lonT b))
  go_wp2
  go_ret2
  exact ⟨by unfold StrErr; rw [← E.out]; rfl, hB2⟩
set_option maxHeartbeats 800000 in
theorem posT_no (a b : Int) (w : World) (h : ¬ ((-32400000 ≤ a ∧ a ≤ 32400000) ∧ (-64800000 < b ∧ b ≤ 64800000))) :
    Calls Try.prog 37 #[.agg #[.int .i64 a, .int .i64 b]] w fun e w' => e = StrErr [] 2 ∧ Below w.heap.size w w' := by
  by_cases h1 : -32400000 ≤ a ∧ a ≤ 32400000
  · have h2 : ¬ (-64800000 < b ∧ b ≤ 64800000) := fun k => h ⟨h1, k⟩
    clear h
    go_enter Try.func37, Try.ntmps37
    go_wp2_with fail
    refine (latT_any a _ h1.1 h1.2).mono ?_
    rintro e w1 ⟨rfl, hb1⟩
    have T1 := (two_new _ _ _ _).below hb1 (by simp)
    have hB1 := ((Below.refl w.heap.size w).alloc (Nat.le_refl _) _).trans (hb1.mono (by simp))
    obtain ⟨c10, c11, f10, f11, _⟩ := id T1
    go_wp2_with fail
    refine (lonT_no b _ h2).mono ?_
    rintro e w2 ⟨rfl, rfl⟩
    clear h1 h2
    go_wp2
    go_ret2
    exact ⟨rfl, hB1⟩
  · clear h
    go_enter Try.func37, Try.ntmps37
    go_wp2_with fail
    refine (latT_no a _ h1).mono ?_
    rintro e w1 ⟨rfl, rfl⟩
    have T1 := two_new w (.int .i64 a) (.int .i64 b) 36
    obtain ⟨c10, c11, f10, f11, _⟩ := id T1
    clear h1
    go_wp2_with fail
    by_cases h2 : -64800000 < b ∧ b ≤ 64800000
    · refine (lonT_any b _ h2.1 h2.2).mono ?_
      rintro e w2 ⟨rfl, hb2⟩
      clear h2
      go_wp2
      go_ret2
      exact ⟨rfl, ((Below.refl w.heap.size w).alloc (Nat.le_refl _) _).trans (hb2.mono (by simp))⟩
    · refine (lonT_no b _ h2).mono ?_
      rintro e w2 ⟨rfl, rfl⟩
      clear h2
      go_wp2
      go_ret2
      exact ⟨rfl, (Below.refl w.heap.size w).alloc (Nat.le_refl _) _⟩

end Go.Proofs.Ytfkpplamhijgcaa
