/- The chapter's examples hold. -/
import Derived.Test.YtfkpplamhijgcaaPos
namespace Go.Proofs.Ytfkpplamhijgcaa
open Go.RowKit
set_option linter.unusedVariables false

theorem ex_lat : latT 17081012 = [78, 52, 55, 50, 54, 53, 48, 49, 50] := by decide +kernel
theorem ex_lon : lonT (-1) = [87, 48, 48, 48, 48, 48, 48, 48, 48, 49] := by decide +kernel
theorem alld_of {l : List UInt8} (h : alld l = true) {n : Int} (h2 : numv l = n) : numw l = n := by unfold numw; rw [if_pos h, h2]
theorem ex_plon : plon ⟨#[87, 49, 56, 48, 48, 48, 48, 48, 48, 48]⟩ = (0, 2) := by
  have hj : jok (ByteArray.extract ⟨#[87, 49, 56, 48, 48, 48, 48, 48, 48, 48]⟩ 1 10) 3 := by
    refine ⟨by decide +kernel, by decide +kernel, ?_, ?_⟩ <;> decide +kernel
  have hv : jval (ByteArray.extract ⟨#[87, 49, 56, 48, 48, 48, 48, 48, 48, 48]⟩ 1 10) 3 = 64800000 := by decide +kernel
  refine prs_out (v := -64800000) ⟨by decide +kernel, .inr (by decide +kernel), hj, fun _ => ?_⟩ ?_ (by omega)
  · show jval (ByteArray.extract ⟨#[87, 49, 56, 48, 48, 48, 48, 48, 48, 48]⟩ 1 10) 3 ≠ 0
    rw [hv]; decide
  · unfold pval; rw [if_pos (by decide +kernel)]
    show - jval (ByteArray.extract ⟨#[87, 49, 56, 48, 48, 48, 48, 48, 48, 48]⟩ 1 10) 3 = _
    rw [hv]
theorem ex_plat : plat ⟨#[83, 48, 48, 48, 48, 48, 48, 48, 48]⟩ = (0, 4) := by
  refine prs_no (fun h => h.2.2.2 (by decide +kernel) ?_)
  show jval (ByteArray.extract ⟨#[83, 48, 48, 48, 48, 48, 48, 48, 48]⟩ 1 9) 2 = 0
  decide +kernel
theorem ex_c1 : dgb ((32598000 % 129600000 + 18000) / 36000 % 3600) 4 = [48, 57, 48, 54] := by decide +kernel
theorem ex_c2 : dgb ((129582000 % 129600000 + 18000) / 36000 % 3600) 4 = [48, 48, 48, 48] := by decide +kernel
theorem ex_ex : sexb (-1 % 129600000) 3 = [51, 53, 57, 53, 57, 53, 57, 57, 57] := by decide +kernel

set_option maxHeartbeats 1600000 in
theorem awake_any (w : World) : Calls Try.prog 12 #[] w fun e w' => e = .returned (.bool true) ∧ Below w.heap.size w w' := by
  have d1 : adiff 126000000 3600000 = 7200000 := by decide
  have d2 : adiff 0 64800000 = 64800000 := by decide
  have d3 : adiff 64800000 0 = 64800000 := by decide
  have d4 : adiff 3600000 126000000 = -7200000 := by decide
  go_enter Try.func12, Try.ntmps12
  go_wp2_with (first | (go_at_call 14; refine (norm_any _ _).mono ?_; rintro e w' ⟨rfl, rfl⟩) | (go_at_call 13; refine (diff_any _ _ _).mono ?_; rintro e w' ⟨rfl, rfl⟩))
  refine (latT_any _ _ (by omega) (by omega)).mono ?_
  rintro e w1 ⟨rfl, hb1⟩
  rw [ex_lat]
  go_wp2_with fail
  refine (lonT_any _ _ (by omega) (by omega)).mono ?_
  rintro e w2 ⟨rfl, hb2⟩
  rw [ex_lon]
  go_wp2_with fail
  refine (pLon_any _ _ (by decide)).mono ?_
  rintro e w3 ⟨rfl, hb3⟩
  rw [ex_plon]
  go_wp2_with fail
  refine (pLat_any _ _ (by decide)).mono ?_
  rintro e w4 ⟨rfl, hb4⟩
  rw [ex_plat]
  go_wp2_with fail
  refine (cT_any _ _).mono ?_
  rintro e w5 ⟨rfl, hb5⟩
  rw [ex_c1]
  go_wp2_with fail
  refine (cT_any _ _).mono ?_
  rintro e w6 ⟨rfl, hb6⟩
  rw [ex_c2]
  go_wp2_with fail
  refine (ex_any _ _).mono ?_
  rintro e w7 ⟨rfl, hb7⟩
  rw [ex_ex]
  go_wp2
  go_ret
  have s1 := hb1.size
  have s2 := hb2.size
  have s3 := hb3.size
  have s4 := hb4.size
  have s5 := hb5.size
  have s6 := hb6.size
  exact ⟨rfl, hb1.trans ((hb2.mono (by omega)).trans ((hb3.mono (by omega)).trans ((hb4.mono (by omega)).trans ((hb5.mono (by omega)).trans ((hb6.mono (by omega)).trans (hb7.mono (by omega)))))))⟩
end Go.Proofs.Ytfkpplamhijgcaa
