/- The contracts of package constraint: the checks. -/
import Derived.Test.YtkhklhibimihfaaBase
import Derived.Test.YtkhklhibimihfaaPairP
namespace Go.Proofs.Ytkhklhibimihfaa
open Go.RowKit Go.Joins Fdk
set_option linter.unusedVariables false
theorem within_t (n lo hi : Int) (w : World) (h1 : lo ≤ n) (h2 : n ≤ hi) :
    Calls Try.prog 12 #[.int .i64 n, .int .i64 lo, .int .i64 hi] w fun e w' => e = .returned (.bool true) ∧ w = w' := by
  go_enter Try.func12, Try.ntmps12
  go_wp2
  go_ret
  exact ⟨rfl, rfl⟩
theorem within_f (n lo hi : Int) (w : World) (h : n < lo ∨ n > hi) :
    Calls Try.prog 12 #[.int .i64 n, .int .i64 lo, .int .i64 hi] w fun e w' => e = .returned (.bool false) ∧ w = w' := by
  by_cases h1 : lo ≤ n
  · have h2 : ¬ n ≤ hi := by omega
    clear h
    go_enter Try.func12, Try.ntmps12
    go_wp2
    go_ret
    exact ⟨rfl, rfl⟩
  · clear h
    go_enter Try.func12, Try.ntmps12
    go_wp2
    go_ret
    exact ⟨rfl, rfl⟩
set_option maxHeartbeats 4000000 in
theorem check_any (q p : Option Addr) (n c m d : Nat) (A B U D : Nat → Int) (w : World) (hW : S2 w q n c A B) (hS : S2 w p m d U D) :
    Calls Try.prog 10 #[.slice q n c, .slice p m d] w fun e w' => (∃ E, e = .returned (.int .i64 E) ∧ (E = 0 ∧ Okc n m A B U D ∨ E ≠ 0 ∧ ¬ Okc n m A B U D)) ∧ Below w.heap.size w w' := by
  have hmx : m ≤ 9223372036854775807 := by have := hS.nm; unfold maxLen at this; omega
  have hnx : n ≤ 9223372036854775807 := by have := hW.nm; unfold maxLen at this; omega
  by_cases h1 : n ≤ 64
  · by_cases h2 : m = n - 1
    · have hx : (if (n : Int) - 1 < 0 then 0 else (n : Int) - 1) = (m : Int) := by split <;> omega
      have HW := Lib.hid hW
      have HS := Lib.hid hS
      have H2 := Lib.hid h2
      clear hW hS h2
      go_enter Try.func10, Try.ntmps10
      go_wp2_with fail

      go_loopw [23] (fun s wr => ∃ k : Nat, k ≤ n ∧ s = .int .i64 k ∧ (∀ i, i < k → (-1099511627776 ≤ A i ∧ A i ≤ 1099511627776) ∧ (-1099511627776 ≤ B i ∧ B i ≤ 1099511627776)) ∧ Below w.heap.size w wr) (fun s _ => n - (intOf s).toNat)
      case atStart => exact ⟨0, Nat.zero_le _, rfl, fun i hi => absurd hi (Nat.not_lt_zero _), Below.refl _ _⟩
      case round =>
        obtain ⟨k, hk, rfl, hg, hb⟩ := hrel
        by_cases g1 : k < n
        · have g2 : (k : Int) < n := by omega
          have g3 : (0 : Int) ≤ k := Int.natCast_nonneg k
          obtain ⟨b, off, hq, hbw, hP⟩ := HW.out.el (by omega)
          have hc := hP.next hbw hb k g1
          obtain ⟨c0, c1⟩ := hc
          have HB := Lib.hid (alc hb (.cells #[.int .i64 (A k), .int .i64 (B k)] 32))
          have HG := Lib.hid hg
          have HK := Lib.hid hk
          clear hb hg hk hP
          subst hq
          generalize hx : A k = x at *
          generalize hy : B k = y at *
          have HX := Lib.hid hx
          have HY := Lib.hid hy
          clear hx hy
          by_cases w1 : (-1099511627776) ≤ x ∧ x ≤ 1099511627776
          · obtain ⟨w1, w2⟩ := w1
            by_cases w3 : (-1099511627776) ≤ y ∧ y ≤ 1099511627776
            · obtain ⟨w3, w4⟩ := w3
              go_wp2_with (first | (go_at_call 12; with_reducible refine (within_t _ _ _ _ w1 w2).mono ?_; rintro e w' ⟨rfl, rfl⟩) | (go_at_call 12; with_reducible refine (within_t _ _ _ _ w3 w4).mono ?_; rintro e w' ⟨rfl, rfl⟩))
              go_roundw
              case rel =>
                exact ⟨k + 1, g1, rfl, fun i hi => by
                by_cases e : i < k
                · exact HG.out i e
                · obtain rfl : i = k := by omega
                  rw [HX.out, HY.out]; exact ⟨⟨w1, w2⟩, w3, w4⟩, HB.out⟩
              case measure => simp [intOf]; omega
            · have w4 : y < (-1099511627776) ∨ y > 1099511627776 := by omega
              go_wp2_with (first | (go_at_call 12; with_reducible refine (within_t _ _ _ _ w1 w2).mono ?_; rintro e w' ⟨rfl, rfl⟩) | (go_at_call 12; with_reducible refine (within_f _ _ _ _ w4).mono ?_; rintro e w' ⟨rfl, rfl⟩))
              go_ret
              exact ⟨⟨2, rfl, .inr ⟨by decide, fun h => w3 (by have := h.w k (by omega); rw [HX.out, HY.out] at this; exact this.2)⟩⟩, HB.out⟩
          · have w2 : x < (-1099511627776) ∨ x > 1099511627776 := by omega
            go_wp2_with (first | (go_at_call 12; with_reducible refine (within_f _ _ _ _ w2).mono ?_; rintro e w' ⟨rfl, rfl⟩))
            go_ret
            exact ⟨⟨2, rfl, .inr ⟨by decide, fun h => w1 (by have := h.w k (by omega); rw [HX.out, HY.out] at this; exact this.1)⟩⟩, HB.out⟩
        · have g2 : ¬ (k : Int) < n := by omega
          have hkn : k = n := by omega
          rw [hkn] at hg
          have HG1 := Lib.hid hg
          have HB1 := Lib.hid hb
          clear hg hb
          go_wp2_with fail
          go_loopw [40] (fun s wr => ∃ k : Nat, k ≤ m ∧ s = .int .i64 k ∧ (∀ i, i < k → (0 ≤ U i ∧ U i ≤ 1099511627776) ∧ (0 ≤ D i ∧ D i ≤ 1099511627776)) ∧ Below w.heap.size w wr) (fun s _ => m - (intOf s).toNat)
          case atStart => exact ⟨0, Nat.zero_le _, rfl, fun i hi => absurd hi (Nat.not_lt_zero _), HB1.out⟩
          case round =>
            obtain ⟨k, hk, rfl, hg, hb⟩ := hrel
            by_cases g1 : k < m
            · have g2 : (k : Int) < m := by omega
              have g3 : (0 : Int) ≤ k := Int.natCast_nonneg k
              obtain ⟨b, off, hq, hbw, hP⟩ := HS.out.el (by omega)
              have hc := hP.next hbw hb k g1
              obtain ⟨c0, c1⟩ := hc
              have HB := Lib.hid (alc hb (.cells #[.int .i64 (U k), .int .i64 (D k)] 35))
              have HG := Lib.hid hg
              have HK := Lib.hid hk
              clear hb hg hk hP
              subst hq
              generalize hx : U k = x at *
              generalize hy : D k = y at *
              have HX := Lib.hid hx
              have HY := Lib.hid hy
              clear hx hy
              by_cases w1 : 0 ≤ x ∧ x ≤ 1099511627776
              · obtain ⟨w1, w2⟩ := w1
                by_cases w3 : 0 ≤ y ∧ y ≤ 1099511627776
                · obtain ⟨w3, w4⟩ := w3
                  go_wp2_with (first | (go_at_call 12; with_reducible refine (within_t _ _ _ _ w1 w2).mono ?_; rintro e w' ⟨rfl, rfl⟩) | (go_at_call 12; with_reducible refine (within_t _ _ _ _ w3 w4).mono ?_; rintro e w' ⟨rfl, rfl⟩))
                  go_roundw
                  case rel =>
                    exact ⟨k + 1, g1, rfl, fun i hi => by
                    by_cases e : i < k
                    · exact HG.out i e
                    · obtain rfl : i = k := by omega
                      rw [HX.out, HY.out]; exact ⟨⟨w1, w2⟩, w3, w4⟩, HB.out⟩
                  case measure => simp [intOf]; omega
                · have w4 : y < 0 ∨ y > 1099511627776 := by omega
                  go_wp2_with (first | (go_at_call 12; with_reducible refine (within_t _ _ _ _ w1 w2).mono ?_; rintro e w' ⟨rfl, rfl⟩) | (go_at_call 12; with_reducible refine (within_f _ _ _ _ w4).mono ?_; rintro e w' ⟨rfl, rfl⟩))
                  go_ret
                  exact ⟨⟨2, rfl, .inr ⟨by decide, fun h => w3 (by have := h.s k (by omega); rw [HX.out, HY.out] at this; exact this.2)⟩⟩, HB.out⟩
              · have w2 : x < 0 ∨ x > 1099511627776 := by omega
                go_wp2_with (first | (go_at_call 12; with_reducible refine (within_f _ _ _ _ w2).mono ?_; rintro e w' ⟨rfl, rfl⟩))
                go_ret
                exact ⟨⟨2, rfl, .inr ⟨by decide, fun h => w1 (by have := h.s k (by omega); rw [HX.out, HY.out] at this; exact this.1)⟩⟩, HB.out⟩
            · have g2 : ¬ (k : Int) < m := by omega
              have hkn : k = m := by omega
              rw [hkn] at hg
              have HG2 := Lib.hid hg
              have HB2 := Lib.hid hb
              clear hg hb
              go_wp2_with fail
              go_ret
              exact ⟨⟨0, rfl, .inl ⟨rfl, ⟨h1, H2.out, HG1.out, HG2.out⟩⟩⟩, HB2.out⟩
    · by_cases hn : (n : Int) - 1 < 0
      · have hx : ((m : Int) != 0) = true := by rw [bne_iff_ne]; omega
        go_enter Try.func10, Try.ntmps10
        go_wp2_with fail
        go_ret
        exact ⟨⟨1, rfl, .inr ⟨by decide, fun h => h2 h.mn⟩⟩, Below.refl _ _⟩
      · have hx : ((m : Int) != (n : Int) - 1) = true := by rw [bne_iff_ne]; omega
        go_enter Try.func10, Try.ntmps10
        go_wp2_with fail
        go_ret
        exact ⟨⟨1, rfl, .inr ⟨by decide, fun h => h2 h.mn⟩⟩, Below.refl _ _⟩
  · have h3 : (n : Int) > 64 := by omega
    go_enter Try.func10, Try.ntmps10
    go_wp2_with fail
    go_ret
    exact ⟨⟨3, rfl, .inr ⟨by decide, fun h => h1 h.n64⟩⟩, Below.refl _ _⟩
end Go.Proofs.Ytkhklhibimihfaa
