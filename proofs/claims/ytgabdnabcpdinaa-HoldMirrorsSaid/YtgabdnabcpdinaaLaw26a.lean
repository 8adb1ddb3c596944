/- HoldEntries, HoldSectors, HoldMirrors: the walks. -/
import Derived.Test.YtgabdnabcpdinaaAwake26
namespace Go.Proofs.Ytgabdnabcpdinaa
open Go.RowKit Go.Joins Fdk
set_option linter.unusedVariables false
theorem holdEntries_walk (c : Int) (_ : -9223372036854775808 ≤ c ∧ c ≤ 9223372036854775807) (i : Int) (_ : -9223372036854775808 ≤ i ∧ i ≤ 9223372036854775807) (k : Int) (_ : 0 ≤ k ∧ k ≤ 255) (w : World) :
    Calls Try.prog 3 #[.int .i64 c, .int .i64 i, .int .u8 k] w fun e w' => e = .returned (.bool true) ∧ Below w.heap.size w w' := by
  have HA := Lib.hid (fun w => hentry_any c i k w)
  have HB := Lib.hid (fun w => rentry_any c i k w)
  generalize hent c i k = E at *
  go_enter Try.func3, Try.ntmps3
  go_wp2_with (first | (go_at_call 10; refine (awake_any _).mono ?_; rintro e w1 ⟨rfl, hb⟩) | (go_at_call 11; refine (HA.out _).mono ?_; rintro e w' ⟨rfl, rfl⟩) | (go_at_call 12; refine (HB.out _).mono ?_; rintro e w' ⟨rfl, rfl⟩))
  go_ret
  exact ⟨rfl, hb⟩
theorem sect_20 (c i : Int) (w : World) (h1 : hew c i 2 < 25200000) :
    Calls Try.prog 4 #[.int .i64 c, .int .i64 i, .bool false] w fun e w' => e = .returned (.bool true) ∧ Below w.heap.size w w' := by
  have HA := Lib.hid (fun w => hentry_any c i 2 w)
  rw [show hent c i 2 = 3 by unfold hent; rw [if_pos (by decide)]; first | rw [if_pos h1] | (rw [if_neg h1]; first | rw [if_pos h2] | rw [if_neg h2])] at HA
  have e1 : IntKind.i64.wrap (i % 129600000 + 64800000) = i % 129600000 + 64800000 := IntWalk.i64_in _ (by omega)
  have e2 : IntKind.i64.wrap ((i % 129600000 + 64800000) % 129600000 - c % 129600000) = (i % 129600000 + 64800000) % 129600000 - c % 129600000 := IntWalk.i64_in _ (by omega)
  have e3 : IntKind.i64.wrap (c % 129600000 - (i % 129600000 + 64800000) % 129600000) = c % 129600000 - (i % 129600000 + 64800000) % 129600000 := IntWalk.i64_in _ (by omega)
  have HN := Lib.hid (show ((i % 129600000 + 64800000) % 129600000 - c % 129600000) % 129600000 < 25200000 from by (have e : hew c i 2 = ((i % 129600000 + 64800000) % 129600000 - c % 129600000) % 129600000 := by (unfold hew hout; first | rw [if_pos rfl] | rw [if_neg (by decide)])); rw [← e]; exact h1)
  clear h1
  go_enter Try.func4, Try.ntmps4
  go_wp2_with (first | (go_at_call 10; refine (awake_any _).mono ?_; rintro e w1 ⟨rfl, hb⟩) | (go_at_call 11; refine (HA.out _).mono ?_; rintro e w' ⟨rfl, rfl⟩) | (go_at_call 13; refine (norm_any _ _).mono ?_; rintro e w' ⟨rfl, rfl⟩))
  go_ret
  exact ⟨ret_bool (decide_eq_true (by have := HN.out; omega)), hb⟩
theorem sect_21 (c i : Int) (w : World) (h1 : ¬ hew c i 2 < 25200000) (h2 : ¬ hew c i 2 ≥ 90000000) :
    Calls Try.prog 4 #[.int .i64 c, .int .i64 i, .bool false] w fun e w' => e = .returned (.bool true) ∧ Below w.heap.size w w' := by
  have HA := Lib.hid (fun w => hentry_any c i 2 w)
  rw [show hent c i 2 = 1 by unfold hent; rw [if_pos (by decide)]; first | rw [if_pos h1] | (rw [if_neg h1]; first | rw [if_pos h2] | rw [if_neg h2])] at HA
  have e1 : IntKind.i64.wrap (i % 129600000 + 64800000) = i % 129600000 + 64800000 := IntWalk.i64_in _ (by omega)
  have e2 : IntKind.i64.wrap ((i % 129600000 + 64800000) % 129600000 - c % 129600000) = (i % 129600000 + 64800000) % 129600000 - c % 129600000 := IntWalk.i64_in _ (by omega)
  have e3 : IntKind.i64.wrap (c % 129600000 - (i % 129600000 + 64800000) % 129600000) = c % 129600000 - (i % 129600000 + 64800000) % 129600000 := IntWalk.i64_in _ (by omega)
  have HN := Lib.hid (show 25200000 ≤ ((i % 129600000 + 64800000) % 129600000 - c % 129600000) % 129600000 ∧ ((i % 129600000 + 64800000) % 129600000 - c % 129600000) % 129600000 < 90000000 from by (have e : hew c i 2 = ((i % 129600000 + 64800000) % 129600000 - c % 129600000) % 129600000 := by (unfold hew hout; first | rw [if_pos rfl] | rw [if_neg (by decide)])); rw [← e]; exact ⟨by omega, by omega⟩)
  clear h1 h2
  have n1 : (i + 64800000 - c) % 129600000 ≥ 25200000 := by have := HN.out; omega
  go_enter Try.func4, Try.ntmps4
  go_wp2_with (first | (go_at_call 10; refine (awake_any _).mono ?_; rintro e w1 ⟨rfl, hb⟩) | (go_at_call 11; refine (HA.out _).mono ?_; rintro e w' ⟨rfl, rfl⟩) | (go_at_call 13; refine (norm_any _ _).mono ?_; rintro e w' ⟨rfl, rfl⟩))
  go_ret
  exact ⟨ret_bool (decide_eq_true (by have := HN.out; omega)), hb⟩
theorem sect_22 (c i : Int) (w : World) (h1 : ¬ hew c i 2 < 25200000) (h2 : hew c i 2 ≥ 90000000) :
    Calls Try.prog 4 #[.int .i64 c, .int .i64 i, .bool false] w fun e w' => e = .returned (.bool true) ∧ Below w.heap.size w w' := by
  have HA := Lib.hid (fun w => hentry_any c i 2 w)
  rw [show hent c i 2 = 2 by unfold hent; rw [if_pos (by decide)]; first | rw [if_pos h1] | (rw [if_neg h1]; first | rw [if_pos h2] | rw [if_neg h2])] at HA
  have e1 : IntKind.i64.wrap (i % 129600000 + 64800000) = i % 129600000 + 64800000 := IntWalk.i64_in _ (by omega)
  have e2 : IntKind.i64.wrap ((i % 129600000 + 64800000) % 129600000 - c % 129600000) = (i % 129600000 + 64800000) % 129600000 - c % 129600000 := IntWalk.i64_in _ (by omega)
  have e3 : IntKind.i64.wrap (c % 129600000 - (i % 129600000 + 64800000) % 129600000) = c % 129600000 - (i % 129600000 + 64800000) % 129600000 := IntWalk.i64_in _ (by omega)
  have HN := Lib.hid (show 90000000 ≤ ((i % 129600000 + 64800000) % 129600000 - c % 129600000) % 129600000 from by (have e : hew c i 2 = ((i % 129600000 + 64800000) % 129600000 - c % 129600000) % 129600000 := by (unfold hew hout; first | rw [if_pos rfl] | rw [if_neg (by decide)])); rw [← e]; exact h2)
  clear h1 h2
  go_enter Try.func4, Try.ntmps4
  go_wp2_with (first | (go_at_call 10; refine (awake_any _).mono ?_; rintro e w1 ⟨rfl, hb⟩) | (go_at_call 11; refine (HA.out _).mono ?_; rintro e w' ⟨rfl, rfl⟩) | (go_at_call 13; refine (norm_any _ _).mono ?_; rintro e w' ⟨rfl, rfl⟩))
  go_ret
  exact ⟨ret_bool (decide_eq_true (by have := HN.out; omega)), hb⟩
theorem sect_10 (c i : Int) (w : World) (h1 : hew c i 1 < 25200000) :
    Calls Try.prog 4 #[.int .i64 c, .int .i64 i, .bool true] w fun e w' => e = .returned (.bool true) ∧ Below w.heap.size w w' := by
  have HA := Lib.hid (fun w => hentry_any c i 1 w)
  rw [show hent c i 1 = 3 by unfold hent; rw [if_pos (by decide)]; first | rw [if_pos h1] | (rw [if_neg h1]; first | rw [if_pos h2] | rw [if_neg h2])] at HA
  have e1 : IntKind.i64.wrap (i % 129600000 + 64800000) = i % 129600000 + 64800000 := IntWalk.i64_in _ (by omega)
  have e2 : IntKind.i64.wrap ((i % 129600000 + 64800000) % 129600000 - c % 129600000) = (i % 129600000 + 64800000) % 129600000 - c % 129600000 := IntWalk.i64_in _ (by omega)
  have e3 : IntKind.i64.wrap (c % 129600000 - (i % 129600000 + 64800000) % 129600000) = c % 129600000 - (i % 129600000 + 64800000) % 129600000 := IntWalk.i64_in _ (by omega)
  have HN := Lib.hid (show (c % 129600000 - (i % 129600000 + 64800000) % 129600000) % 129600000 < 25200000 from by (have e : hew c i 1 = (c % 129600000 - (i % 129600000 + 64800000) % 129600000) % 129600000 := by (unfold hew hout; first | rw [if_pos rfl] | rw [if_neg (by decide)])); rw [← e]; exact h1)
  clear h1
  go_enter Try.func4, Try.ntmps4
  go_wp2_with (first | (go_at_call 10; refine (awake_any _).mono ?_; rintro e w1 ⟨rfl, hb⟩) | (go_at_call 11; refine (HA.out _).mono ?_; rintro e w' ⟨rfl, rfl⟩) | (go_at_call 13; refine (norm_any _ _).mono ?_; rintro e w' ⟨rfl, rfl⟩))
  go_ret
  exact ⟨ret_bool (decide_eq_true (by have := HN.out; omega)), hb⟩
theorem sect_11 (c i : Int) (w : World) (h1 : ¬ hew c i 1 < 25200000) (h2 : ¬ hew c i 1 ≥ 90000000) :
    Calls Try.prog 4 #[.int .i64 c, .int .i64 i, .bool true] w fun e w' => e = .returned (.bool true) ∧ Below w.heap.size w w' := by
  have HA := Lib.hid (fun w => hentry_any c i 1 w)
  rw [show hent c i 1 = 1 by unfold hent; rw [if_pos (by decide)]; first | rw [if_pos h1] | (rw [if_neg h1]; first | rw [if_pos h2] | rw [if_neg h2])] at HA
  have e1 : IntKind.i64.wrap (i % 129600000 + 64800000) = i % 129600000 + 64800000 := IntWalk.i64_in _ (by omega)
  have e2 : IntKind.i64.wrap ((i % 129600000 + 64800000) % 129600000 - c % 129600000) = (i % 129600000 + 64800000) % 129600000 - c % 129600000 := IntWalk.i64_in _ (by omega)
  have e3 : IntKind.i64.wrap (c % 129600000 - (i % 129600000 + 64800000) % 129600000) = c % 129600000 - (i % 129600000 + 64800000) % 129600000 := IntWalk.i64_in _ (by omega)
  have HN := Lib.hid (show 25200000 ≤ (c % 129600000 - (i % 129600000 + 64800000) % 129600000) % 129600000 ∧ (c % 129600000 - (i % 129600000 + 64800000) % 129600000) % 129600000 < 90000000 from by (have e : hew c i 1 = (c % 129600000 - (i % 129600000 + 64800000) % 129600000) % 129600000 := by (unfold hew hout; first | rw [if_pos rfl] | rw [if_neg (by decide)])); rw [← e]; exact ⟨by omega, by omega⟩)
  clear h1 h2
  have n1 : (-((i + 64800000) % 129600000 - c % 129600000)) % 129600000 ≥ 25200000 := by have := HN.out; omega
  go_enter Try.func4, Try.ntmps4
  go_wp2_with (first | (go_at_call 10; refine (awake_any _).mono ?_; rintro e w1 ⟨rfl, hb⟩) | (go_at_call 11; refine (HA.out _).mono ?_; rintro e w' ⟨rfl, rfl⟩) | (go_at_call 13; refine (norm_any _ _).mono ?_; rintro e w' ⟨rfl, rfl⟩))
  go_ret
  exact ⟨ret_bool (decide_eq_true (by have := HN.out; omega)), hb⟩
theorem sect_12 (c i : Int) (w : World) (h1 : ¬ hew c i 1 < 25200000) (h2 : hew c i 1 ≥ 90000000) :
    Calls Try.prog 4 #[.int .i64 c, .int .i64 i, .bool true] w fun e w' => e = .returned (.bool true) ∧ Below w.heap.size w w' := by
  have HA := Lib.hid (fun w => hentry_any c i 1 w)
  rw [show hent c i 1 = 2 by unfold hent; rw [if_pos (by decide)]; first | rw [if_pos h1] | (rw [if_neg h1]; first | rw [if_pos h2] | rw [if_neg h2])] at HA
  have e1 : IntKind.i64.wrap (i % 129600000 + 64800000) = i % 129600000 + 64800000 := IntWalk.i64_in _ (by omega)
  have e2 : IntKind.i64.wrap ((i % 129600000 + 64800000) % 129600000 - c % 129600000) = (i % 129600000 + 64800000) % 129600000 - c % 129600000 := IntWalk.i64_in _ (by omega)
  have e3 : IntKind.i64.wrap (c % 129600000 - (i % 129600000 + 64800000) % 129600000) = c % 129600000 - (i % 129600000 + 64800000) % 129600000 := IntWalk.i64_in _ (by omega)
  have HN := Lib.hid (show 90000000 ≤ (c % 129600000 - (i % 129600000 + 64800000) % 129600000) % 129600000 from by (have e : hew c i 1 = (c % 129600000 - (i % 129600000 + 64800000) % 129600000) % 129600000 := by (unfold hew hout; first | rw [if_pos rfl] | rw [if_neg (by decide)])); rw [← e]; exact h2)
  clear h1 h2
  go_enter Try.func4, Try.ntmps4
  go_wp2_with (first | (go_at_call 10; refine (awake_any _).mono ?_; rintro e w1 ⟨rfl, hb⟩) | (go_at_call 11; refine (HA.out _).mono ?_; rintro e w' ⟨rfl, rfl⟩) | (go_at_call 13; refine (norm_any _ _).mono ?_; rintro e w' ⟨rfl, rfl⟩))
  go_ret
  exact ⟨ret_bool (decide_eq_true (by have := HN.out; omega)), hb⟩
theorem holdSectors_walk (c : Int) (_ : -9223372036854775808 ≤ c ∧ c ≤ 9223372036854775807) (i : Int) (_ : -9223372036854775808 ≤ i ∧ i ≤ 9223372036854775807) (l : Bool) (w : World) :
    Calls Try.prog 4 #[.int .i64 c, .int .i64 i, .bool l] w fun e w' => e = .returned (.bool true) ∧ Below w.heap.size w w' := by
  cases l
  · by_cases h1 : hew c i 2 < 25200000
    · exact sect_20 c i w h1
    · by_cases h2 : hew c i 2 ≥ 90000000
      · exact sect_22 c i w h1 h2
      · exact sect_21 c i w h1 h2
  · by_cases h1 : hew c i 1 < 25200000
    · exact sect_10 c i w h1
    · by_cases h2 : hew c i 1 ≥ 90000000
      · exact sect_12 c i w h1 h2
      · exact sect_11 c i w h1 h2
theorem hent_mir {c i x y : Int} (hx : (x + c) % 129600000 = 0) (hz : (y + i) % 129600000 = 0) : hent (c % 129600000) (i % 129600000) 1 = hent x y 2 := by
  have e : hew (c % 129600000) (i % 129600000) 1 = hew x y 2 := by
    unfold hew hout
    rw [if_neg (by decide), if_pos rfl]
    omega
  unfold hent
  rw [if_pos (Or.inl rfl : (1 : Int) = 1 ∨ (1 : Int) = 2), if_pos (Or.inr rfl : (2 : Int) = 1 ∨ (2 : Int) = 2), e]
theorem holdMirrors_walk (c : Int) (_ : -9223372036854775808 ≤ c ∧ c ≤ 9223372036854775807) (i : Int) (_ : -9223372036854775808 ≤ i ∧ i ≤ 9223372036854775807) (w : World) :
    Calls Try.prog 5 #[.int .i64 c, .int .i64 i] w fun e w' => e = .returned (.bool true) ∧ Below w.heap.size w w' := by
  have e1 : IntKind.i64.wrap (-(c % 129600000)) = -(c % 129600000) := IntWalk.i64_in _ (by omega)
  have e2 : IntKind.i64.wrap (-(i % 129600000)) = -(i % 129600000) := IntWalk.i64_in _ (by omega)
  go_enter Try.func5, Try.ntmps5
  go_wp2_with (first | (go_at_call 10; refine (awake_any _).mono ?_; rintro e w1 ⟨rfl, hb⟩) | (go_at_call 11; refine (hentry_any _ _ _ _).mono ?_; rintro e w' ⟨rfl, rfl⟩) | (go_at_call 13; refine (norm_any _ _).mono ?_; rintro e w' ⟨rfl, rfl⟩))
  go_ret
  exact ⟨ret_bool (beq_iff_eq.2 (hent_mir (by omega) (by omega))), hb⟩
end Go.Proofs.Ytgabdnabcpdinaa
