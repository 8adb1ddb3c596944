/- Latitudes, longitudes, positions and courses read back, on both sides. -/
import Derived.Test.YtfkpplamhijgcaaPar2
namespace Go.Proofs.Ytfkpplamhijgcaa
open Go.RowKit
set_option linter.unusedVariables false

open Classical in
/-- what is handed back for a text of an angle from lo to hi. -/
noncomputable def prs (p m : UInt8) (c : Nat) (lo hi : Int) (s : ByteArray) : Int × Int :=
  if pok s p m c then (if lo ≤ pval s m c ∧ pval s m c ≤ hi then (pval s m c, 0) else (0, 2)) else (0, 4)
noncomputable def plat (s : ByteArray) : Int × Int := prs 78 83 2 (-32400000) 32400000 s
noncomputable def plon (s : ByteArray) : Int × Int := prs 69 87 3 (-64799999) 64800000 s
abbrev IntErr (p : Int × Int) : Ending := .returned (.tuple #[.int .i64 p.1, .int .i64 p.2])
theorem prs_no {p m : UInt8} {c : Nat} {lo hi : Int} {s : ByteArray} (h : ¬ pok s p m c) : prs p m c lo hi s = (0, 4) := by unfold prs; rw [if_neg h]
theorem prs_out {p m : UInt8} {c : Nat} {lo hi v : Int} {s : ByteArray} (h : pok s p m c) (hv : pval s m c = v) (h2 : ¬ (lo ≤ v ∧ v ≤ hi)) : prs p m c lo hi s = (0, 2) := by unfold prs; rw [if_pos h, hv, if_neg h2]
theorem prs_in {p m : UInt8} {c : Nat} {lo hi v : Int} {s : ByteArray} (h : pok s p m c) (hv : pval s m c = v) (h2 : lo ≤ v ∧ v ≤ hi) : prs p m c lo hi s = (v, 0) := by unfold prs; rw [if_pos h, hv, if_pos h2]
theorem ie (p : Int × Int) (a b : Int) (h : p = (a, b)) : Ending.returned (.tuple #[.int .i64 a, .int .i64 b]) = IntErr p := by rw [h]

set_option maxHeartbeats 1600000 in
theorem pLat_any (s : ByteArray) (w : World) (hm : s.size ≤ maxLen) :
    Calls Try.prog 40 #[.string s] w fun e w' => e = IntErr (plat s) ∧ Below w.heap.size w w' := by
  go_enter Try.func40, Try.ntmps40
  go_wp2_with fail
  refine (parseLat s _ hm).mono ?_
  rintro e w' ⟨⟨hp, rfl⟩ | ⟨hp, rfl⟩, rfl⟩
  · generalize hv : pval s 83 2 = v at *
    have HP := Lib.hid hp
    have HV := Lib.hid hv
    clear hp hv
    by_cases h1 : v < -32400000
    · have hd : decide (-32400000 ≤ v) = false := by simp; omega
      go_wp2_with (go_at_call 54; go_in)
      go_ret2
      exact ⟨ie _ _ _ (prs_out HP.out HV.out (by omega)), Below.refl _ _⟩
    by_cases h2 : 32400000 < v
    · have hd : decide (-32400000 ≤ v) = true := by simp; omega
      have hd2 : decide (v ≤ 32400000) = false := by simp; omega
      go_wp2_with (go_at_call 54; go_in)
      go_ret2
      exact ⟨ie _ _ _ (prs_out HP.out HV.out (by omega)), Below.refl _ _⟩
    · have hd : decide (-32400000 ≤ v) = true := by simp; omega
      have hd2 : decide (v ≤ 32400000) = true := by simp; omega
      go_wp2_with (go_at_call 54; go_in)
      go_ret2
      exact ⟨ie _ _ _ (prs_in HP.out HV.out (by omega)), Below.refl _ _⟩
  · have HP := Lib.hid hp
    clear hp
    go_wp2
    go_ret2
    exact ⟨ie _ _ _ (prs_no HP.out), Below.refl _ _⟩

set_option maxHeartbeats 1600000 in
theorem rpLat_any (s : ByteArray) (w : World) (hm : s.size ≤ maxLen) :
    Calls Try.prog 43 #[.string s] w fun e w' => e = IntErr (plat s) ∧ Below w.heap.size w w' := by
  go_enter Try.func43, Try.ntmps43
  go_wp2_with fail
  refine (rparseLat s _ hm).mono ?_
  rintro e w' ⟨⟨hp, rfl⟩ | ⟨hp, rfl⟩, hbel⟩
  · generalize hv : pval s 83 2 = v at *
    have HP := Lib.hid hp
    have HV := Lib.hid hv
    clear hp hv
    by_cases h1 : v < -32400000
    · have hd : decide (-32400000 ≤ v) = false := by simp; omega
      go_wp2
      go_ret2
      exact ⟨ie _ _ _ (prs_out HP.out HV.out (by omega)), hbel⟩
    by_cases h2 : 32400000 < v
    · have hd : decide (-32400000 ≤ v) = true := by simp; omega
      have hd2 : decide (v ≤ 32400000) = false := by simp; omega
      go_wp2
      go_ret2
      exact ⟨ie _ _ _ (prs_out HP.out HV.out (by omega)), hbel⟩
    · have hd : decide (-32400000 ≤ v) = true := by simp; omega
      have hd2 : decide (v ≤ 32400000) = true := by simp; omega
      go_wp2
      go_ret2
      exact ⟨ie _ _ _ (prs_in HP.out HV.out (by omega)), hbel⟩
  · have HP := Lib.hid hp
    clear hp
    go_wp2
    go_ret2
    exact ⟨ie _ _ _ (prs_no HP.out), hbel⟩

set_option maxHeartbeats 1600000 in
theorem pLon_any (s : ByteArray) (w : World) (hm : s.size ≤ maxLen) :
    Calls Try.prog 41 #[.string s] w fun e w' => e = IntErr (plon s) ∧ Below w.heap.size w w' := by
  go_enter Try.func41, Try.ntmps41
  go_wp2_with fail
  refine (parseLon s _ hm).mono ?_
  rintro e w' ⟨⟨hp, rfl⟩ | ⟨hp, rfl⟩, rfl⟩
  · generalize hv : pval s 87 3 = v at *
    have HP := Lib.hid hp
    have HV := Lib.hid hv
    clear hp hv
    by_cases h1 : v < -64799999
    · have hd : decide (-64799999 ≤ v) = false := by simp; omega
      go_wp2_with (go_at_call 56; go_in)
      go_ret2
      exact ⟨ie _ _ _ (prs_out HP.out HV.out (by omega)), Below.refl _ _⟩
    by_cases h2 : 64800000 < v
    · have hd : decide (-64799999 ≤ v) = true := by simp; omega
      have hd2 : decide (v ≤ 64800000) = false := by simp; omega
      go_wp2_with (go_at_call 56; go_in)
      go_ret2
      exact ⟨ie _ _ _ (prs_out HP.out HV.out (by omega)), Below.refl _ _⟩
    · have hd : decide (-64799999 ≤ v) = true := by simp; omega
      have hd2 : decide (v ≤ 64800000) = true := by simp; omega
      go_wp2_with (go_at_call 56; go_in)
      go_ret2
      exact ⟨ie _ _ _ (prs_in HP.out HV.out (by omega)), Below.refl _ _⟩
  · have HP := Lib.hid hp
    clear hp
    go_wp2
    go_ret2
    exact ⟨ie _ _ _ (prs_no HP.out), Below.refl _ _⟩

set_option maxHeartbeats 1600000 in
theorem rpLon_any (s : ByteArray) (w : World) (hm : s.size ≤ maxLen) :
    Calls Try.prog 44 #[.string s] w fun e w' => e = IntErr (plon s) ∧ Below w.heap.size w w' := by
  go_enter Try.func44, Try.ntmps44
  go_wp2_with fail
  refine (rparseLon s _ hm).mono ?_
  rintro e w' ⟨⟨hp, rfl⟩ | ⟨hp, rfl⟩, hbel⟩
  · generalize hv : pval s 87 3 = v at *
    have HP := Lib.hid hp
    have HV := Lib.hid hv
    clear hp hv
    by_cases h1 : v < -64799999
    · have hd : decide (-64799999 ≤ v) = false := by simp; omega
      go_wp2
      go_ret2
      exact ⟨ie _ _ _ (prs_out HP.out HV.out (by omega)), hbel⟩
    by_cases h2 : 64800000 < v
    · have hd : decide (-64799999 ≤ v) = true := by simp; omega
      have hd2 : decide (v ≤ 64800000) = false := by simp; omega
      go_wp2
      go_ret2
      exact ⟨ie _ _ _ (prs_out HP.out HV.out (by omega)), hbel⟩
    · have hd : decide (-64799999 ≤ v) = true := by simp; omega
      have hd2 : decide (v ≤ 64800000) = true := by simp; omega
      go_wp2
      go_ret2
      exact ⟨ie _ _ _ (prs_in HP.out HV.out (by omega)), hbel⟩
  · have HP := Lib.hid hp
    clear hp
    go_wp2
    go_ret2
    exact ⟨ie _ _ _ (prs_no HP.out), hbel⟩
end Go.Proofs.Ytfkpplamhijgcaa
