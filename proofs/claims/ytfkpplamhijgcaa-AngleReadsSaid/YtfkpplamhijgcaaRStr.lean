/- The reference's texts of angles. -/
import Derived.Test.YtfkpplamhijgcaaStrB
namespace Go.Proofs.Ytfkpplamhijgcaa
open Go.RowKit
set_option linter.unusedVariables false

theorem ba_app (a b : List UInt8) : (⟨a.toArray⟩ ++ ⟨b.toArray⟩ : ByteArray) = ⟨(a ++ b).toArray⟩ := by
  apply ByteArray.ext
  simp
theorem str_app (a b : List UInt8) : Value.string (⟨a.toArray⟩ ++ ⟨b.toArray⟩) = .string ⟨(a ++ b).toArray⟩ := by rw [ba_app]
theorem str_one (w : World) (z : Int) (h0 : 0 ≤ z) (h1 : z < 256) : (convert 44 9 (.slice (some ⟨w.heap.size, 0, none⟩) 1 1)).run Try.prog (w.alloc (.cells #[.int .u8 z] 5)) = .ok (.string ⟨#[UInt8.ofNat z.toNat]⟩) (w.alloc (.cells #[.int .u8 z] 5)) := by
  have e : ((UInt8.ofNat z.toNat).toNat : Int) = z := by
    have : (UInt8.ofNat z.toNat).toNat = z.toNat := by simp; omega
    rw [this, Int.toNat_of_nonneg h0]
  exact str_back (n := 1) (l := [UInt8.ofNat z.toNat]) (by have := own_byte w z; unfold bcells; simp only [List.map_cons, List.map_nil, e]; exact this) rfl (by decide)

set_option maxHeartbeats 800000 in
theorem rdigits_any (n : Int) (c : Nat) (w : World) (hn : 0 ≤ n) (hn2 : n ≤ 1000000000) (hc : c ≤ 4) :
    Calls Try.prog 50 #[.int .i64 n, .int .i64 c] w fun e w' => e = .returned (.string ⟨(dgb n c).toArray⟩) ∧ Below w.heap.size w w' := by
  go_enter Try.func50, Try.ntmps50
  go_wp2
  go_loopw [0, 5, 7] (fun n' s i wr => ∃ (j p : Nat) (nn : Int) (ys : List UInt8), j + p = c ∧ 0 ≤ nn ∧ nn ≤ 1000000000 ∧ i = .int .i64 j ∧ n' = .int .i64 nn ∧ s = .string ⟨ys.toArray⟩ ∧ dgb nn p ++ ys = dgb n c ∧ ys.length = j ∧ Below w.heap.size w wr) (fun _ _ i _ => c - (intOf i).toNat)
  case atStart => exact ⟨0, c, n, [], by omega, hn, hn2, rfl, rfl, rfl, by simp, rfl, Below.refl _ _⟩
  case round =>
    obtain ⟨j, p, nn, ys, hj, h0, h1, rfl, rfl, rfl, hys, hyl, hb⟩ := hrel
    have HY := Lib.hid hys
    have HJ := Lib.hid hj
    have HL := Lib.hid hyl
    have hyl2 : ys.length ≤ 4 := by omega
    clear hys hyl
    by_cases hlt : j < c
    · obtain ⟨q, rfl⟩ : ∃ q, p = q + 1 := ⟨p - 1, by omega⟩
      clear hj
      have hd0 : 0 ≤ nn % 10 := by omega
      have hd1 : nn % 10 < 10 := by omega
      have hs := str_one wr (48 + nn % 10) (by omega) (by omega)
      have hb2 := hb.alloc hb.size (.cells #[.int .u8 (48 + nn % 10)] 5)
      go_wp2
      go_roundw
      case rel => exact ⟨j + 1, q, nn / 10, UInt8.ofNat (48 + nn % 10).toNat :: ys, by have := HJ.out; omega, by omega, by omega, by go_num, rfl, str_app [_] ys, by rw [← HY.out]; simp [dgb], by have := HL.out; simp; omega, hb2⟩
      case measure => simp [intOf]; omega
    · obtain rfl : p = 0 := by omega
      clear hj
      go_wp2
      go_ret
      exact ⟨by rw [← HY.out]; rfl, hb⟩

set_option maxHeartbeats 800000 in
theorem rsex_any (a : Int) (c : Nat) (w : World) (hn : 0 ≤ a) (hn2 : a ≤ 1000000000) (hc : c ≤ 4) :
    Calls Try.prog 51 #[.int .i64 a, .int .i64 c] w fun e w' => e = .returned (.string ⟨(sexb a c).toArray⟩) ∧ Below w.heap.size w w' := by
  have hd0 : 0 ≤ a / 360000 := by omega
  have hd1 : a / 360000 ≤ 1000000000 := by omega
  have he0 : 0 ≤ a / 6000 % 60 := by omega
  have he1 : a / 6000 % 60 ≤ 60 := by omega
  have hf0 : 0 ≤ a / 100 % 60 := by omega
  have hf1 : a / 100 % 60 ≤ 60 := by omega
  have l0 : (dgb (a / 360000) c).length ≤ 4 := by rw [dgb_len]; exact hc
  have l1 : (dgb (a / 6000 % 60) 2).length ≤ 4 := by rw [dgb_len]; omega
  have l2 : (dgb (a / 100 % 60) 2).length ≤ 4 := by rw [dgb_len]; omega
  have l3 : (dgb (a % 100) 2).length ≤ 4 := by rw [dgb_len]; omega
  have hg0 : 0 ≤ a % 100 := by omega
  have hg1 : a % 100 ≤ 100 := by omega
  go_enter Try.func51, Try.ntmps51
  go_wp2_with fail
  refine (rdigits_any _ _ _ (by omega) (by omega) hc).mono ?_
  rintro e w1 ⟨rfl, hb1⟩
  go_wp2_with fail
  refine (rdigits_any _ 2 _ (by omega) (by omega) (by omega)).mono ?_
  rintro e w2 ⟨rfl, hb2⟩
  go_wp2_with fail
  refine (rdigits_any _ 2 _ (by omega) (by omega) (by omega)).mono ?_
  rintro e w3 ⟨rfl, hb3⟩
  go_wp2_with fail
  refine (rdigits_any _ 2 _ (by omega) (by omega) (by omega)).mono ?_
  rintro e w4 ⟨rfl, hb4⟩
  have e : ((⟨(dgb (a / 360000) c).toArray⟩ ++ ⟨(dgb (a / 6000 % 60) 2).toArray⟩ ++ ⟨(dgb (a / 100 % 60) 2).toArray⟩ ++ ⟨(dgb (a % 100) 2).toArray⟩ : ByteArray)) = ⟨(sexb a c).toArray⟩ := by
    rw [ba_app, ba_app, ba_app, sexb]; simp
  have E := Lib.hid e
  clear e
  go_wp2
  go_ret
  exact ⟨by rw [← E.out]; rfl, ((hb1.trans (hb2.mono hb1.size)).trans (hb3.mono (Nat.le_trans hb1.size hb2.size))).trans (hb4.mono (Nat.le_trans (Nat.le_trans hb1.size hb2.size) hb3.size))⟩

set_option maxHeartbeats 400000 in
theorem rlatT_any (a : Int) (w : World) (h0 : -32400000 ≤ a) (h1 : a ≤ 32400000) :
    Calls Try.prog 38 #[.int .i64 a] w fun e w' => e = StrErr (latT a) 0 ∧ Below w.heap.size w w' := by
  by_cases h : a < 0
  · go_enter Try.func38, Try.ntmps38
    go_wp2_with (go_at_call 51; refine (rsex_any _ 2 _ (by omega) (by omega) (by omega)).mono ?_; rintro e w' ⟨rfl, hb⟩)
    go_ret2
    exact ⟨by rw [show latT a = [83] ++ sexb (-a) 2 by unfold latT sgt; rw [if_pos h]; rfl]; unfold StrErr; rw [← ba_app]; rfl, hb⟩
  · go_enter Try.func38, Try.ntmps38
    go_wp2_with (go_at_call 51; refine (rsex_any _ 2 _ (by omega) (by omega) (by omega)).mono ?_; rintro e w' ⟨rfl, hb⟩)
    go_ret2
    exact ⟨by rw [show latT a = [78] ++ sexb a 2 by unfold latT sgt; rw [if_neg (by omega)]; rfl]; unfold StrErr; rw [← ba_app]; rfl, hb⟩
set_option maxHeartbeats 400000 in
theorem rlatT_no (a : Int) (w : World) (h : ¬ (-32400000 ≤ a ∧ a ≤ 32400000)) :
    Calls Try.prog 38 #[.int .i64 a] w fun e w' => e = StrErr [] 2 ∧ w = w' := by
  by_cases h0 : -32400000 ≤ a
  · have hd : decide (32400000 < a) = true := by simp; omega
    have h1 : 32400000 < a := by omega
    go_enter Try.func38, Try.ntmps38
    go_wp2
    go_ret2
    exact ⟨rfl, rfl⟩
  · go_enter Try.func38, Try.ntmps38
    go_wp2
    go_ret2
    exact ⟨rfl, rfl⟩

set_option maxHeartbeats 400000 in
theorem rlonT_any (a : Int) (w : World) (h0 : -64800000 < a) (h1 : a ≤ 64800000) :
    Calls Try.prog 39 #[.int .i64 a] w fun e w' => e = StrErr (lonT a) 0 ∧ Below w.heap.size w w' := by
  by_cases h : a < 0
  · go_enter Try.func39, Try.ntmps39
    go_wp2_with (go_at_call 51; refine (rsex_any _ 3 _ (by omega) (by omega) (by omega)).mono ?_; rintro e w' ⟨rfl, hb⟩)
    go_ret2
    exact ⟨by rw [show lonT a = [87] ++ sexb (-a) 3 by unfold lonT sgt; rw [if_pos h]; rfl]; unfold StrErr; rw [← ba_app]; rfl, hb⟩
  · go_enter Try.func39, Try.ntmps39
    go_wp2_with (go_at_call 51; refine (rsex_any _ 3 _ (by omega) (by omega) (by omega)).mono ?_; rintro e w' ⟨rfl, hb⟩)
    go_ret2
    exact ⟨by rw [show lonT a = [69] ++ sexb a 3 by unfold lonT sgt; rw [if_neg (by omega)]; rfl]; unfold StrErr; rw [← ba_app]; rfl, hb⟩
set_option maxHeartbeats 400000 in
theorem rlonT_no (a : Int) (w : World) (h : ¬ (-64800000 < a ∧ a ≤ 64800000)) :
    Calls Try.prog 39 #[.int .i64 a] w fun e w' => e = StrErr [] 2 ∧ w = w' := by
  by_cases h0 : -64800000 < a
  · have hd : decide (64800000 < a) = true := by simp; omega
    have h1 : 64800000 < a := by omega
    go_enter Try.func39, Try.ntmps39
    go_wp2
    go_ret2
    exact ⟨rfl, rfl⟩
  · go_enter Try.func39, Try.ntmps39
    go_wp2
    go_ret2
    exact ⟨rfl, rfl⟩

set_option maxHeartbeats 400000 in
theorem rcT_any (a : Int) (w : World) :
    Calls Try.prog 31 #[.int .i64 a] w fun e w' => e = .returned (.string ⟨(dgb ((a % 129600000 + 18000) / 36000 % 3600) 4).toArray⟩) ∧ Below w.heap.size w w' := by
  have h0 : 0 ≤ a % 129600000 := by omega
  have h1 : a % 129600000 < 129600000 := by omega
  have h2 : 0 ≤ (a % 129600000 + 18000) / 36000 % 3600 := by omega
  have h3 : (a % 129600000 + 18000) / 36000 % 3600 ≤ 3600 := by omega
  go_enter Try.func31, Try.ntmps31
  go_wp2_with (first | (go_at_call 15; refine (rnorm_any _ _).mono ?_; rintro e w' ⟨rfl, rfl⟩) | (go_at_call 50; refine (rdigits_any _ 4 _ (by omega) (by omega) (by omega)).mono ?_; rintro e w1 ⟨rfl, hb⟩))
  go_ret
  exact ⟨rfl, hb⟩
set_option maxHeartbeats 400000 in
theorem rex_any (a : Int) (w : World) :
    Calls Try.prog 32 #[.int .i64 a] w fun e w' => e = .returned (.string ⟨(sexb (a % 129600000) 3).toArray⟩) ∧ Below w.heap.size w w' := by
  go_enter Try.func32, Try.ntmps32
  go_wp2_with (first | (go_at_call 15; refine (rnorm_any _ _).mono ?_; rintro e w' ⟨rfl, rfl⟩) | (go_at_call 51; refine (rsex_any _ 3 _ (by omega) (by omega) (by omega)).mono ?_; rintro e w1 ⟨rfl, hb⟩))
  go_ret
  exact ⟨rfl, hb⟩
end Go.Proofs.Ytfkpplamhijgcaa
