/- TopPair: the walk. -/
import Derived.Test.YtkhklhibimihfaaPairI
import Derived.BigRegion
namespace Go.Proofs.Ytkhklhibimihfaa
open Go.RowKit Go.Joins Fdk
set_option linter.unusedVariables false
/-- the two windows are put into the wide ones. -/
theorem Wr.two {w : World} {b n : Nat} {A B : Nat → Int} (h : Wr w b n (fun _ => -1099511627776) (fun _ => 1099511627776)) {i k : Nat} (hi : i < n) (hk : k < n) :
    Wr ((((w.setCell ⟨b, i * 2, none⟩ (.int .i64 (A i))).setCell ⟨b, i * 2 + 1, none⟩ (.int .i64 (B i))).setCell ⟨b, k * 2, none⟩ (.int .i64 (A k))).setCell ⟨b, k * 2 + 1, none⟩ (.int .i64 (B k))) b n (wlo A i k) (whi B i k) := by
  refine ((h.put hi (A i) (B i)).put hk (A k) (B k)).ext (fun t _ => ?_)
  unfold upd wlo whi
  by_cases e : t = k
  · subst e; simp
  · by_cases f : t = i
    · subst f; simp [e]
    · simp [e, f]
theorem far_set {w : World} {lb b o x : Nat} {u y : Value} (h : ¬ lb = b) (k : w.cell? ⟨b, o, none⟩ = some y) : (w.setCell ⟨lb, x, none⟩ u).cell? ⟨b, o, none⟩ = some y := (cother (fun e => h (congrArg Addr.block e))).trans k
theorem far_drew {w : World} {a : Addr} {y : Value} (k : w.cell? a = some y) : w.drew.cell? a = some y := k
abbrev PosW (n : Nat) (A B U D : Nat → Int) (a k : Nat) : Prop := Pos n (wlo A a k) (whi B a k) U D
set_option maxRecDepth 8000 in
set_option maxHeartbeats 8000000 in
theorem pair_any (q p : Option Addr) (n c m d : Nat) (A B U D : Nat → Int) (w : World) (hW : S2 w q n c A B) (hS : S2 w p m d U D) :
    Calls Try.prog 3 #[.slice q n c, .slice p m d] w fun e w' => e = .returned (.bool true) ∧ Below w.heap.size w w' := by
  have hnx : n ≤ 9223372036854775807 := by have := hW.nm; unfold maxLen at this; omega
  go_enter Try.func3, Try.ntmps3
  go_wp2_with fail
  refine (chain_any w).mono ?_
  rintro e w1 ⟨rfl, hb⟩
  have HB := Lib.hid hb
  replace hW := hW.next hb
  replace hS := hS.next hb
  clear hb
  go_wp2_with fail
  refine (conflicts_any q p n c m d A B U D w1 hW hS).mono ?_
  rintro e w2 ⟨hE, hb⟩
  have hE' : (¬ Okc n m A B U D ∧ ∃ E, E ≠ 0 ∧ e = .returned (cnV 0 0 false E)) ∨ (Okc n m A B U D ∧ ∃ (I J : Nat) (bd : Bool), (bd = true → Good n A B U D I J) ∧ (bd = false → ∀ i j, ¬ Good n A B U D i j) ∧ e = .returned (cnV I J bd 0)) := by
    rcases hE with h | ⟨hK, hG, he⟩ | ⟨hK, I, J, hIJ, he⟩
    · exact .inl h
    · exact .inr ⟨hK, 0, 0, false, fun h => (by cases h), fun _ => hG, he⟩
    · exact .inr ⟨hK, I, J, true, fun _ => hIJ, fun h => (by cases h), he⟩
  clear hE
  rcases hE' with ⟨hK, E, hE, rfl⟩ | ⟨hK, I, J, bd, hbt, hbf, rfl⟩
  · have HB2 := Lib.hid (alc (thn HB.out hb) (.cells #[.int .i64 0, .int .i64 0] 26))
    have hE2 : (E != 0) = true := by simp [hE]
    have hE3 : (E == 0) = false := by simp [hE]
    clear hb hW hS HB hK hE
    go_wp2_with fail
    go_ret
    exact ⟨rfl, HB2.out⟩
  · have HB2 := Lib.hid (alc (thn HB.out hb) (.cells #[.int .i64 I, .int .i64 J] 26))
    replace hW := (hW.next hb).next (below_alloc1 w2 (.cells #[.int .i64 I, .int .i64 J] 26))
    replace hS := (hS.next hb).next (below_alloc1 w2 (.cells #[.int .i64 I, .int .i64 J] 26))
    have C := c2_new w2 (.int .i64 I) (.int .i64 J) 26
    clear HB hb
    by_cases h1 : (n : Int) > 10
    · clear hW hS hK hbt hbf
      go_wp2_with fail
      go_ret
      exact ⟨rfl, HB2.out⟩
    · have HK := Lib.hid hK
      have HT := Lib.hid hbt
      have HF := Lib.hid hbf
      have HW := Lib.hid hW
      have HS := Lib.hid hS
      have HC := Lib.hid C
      clear hK hbt hbf hW hS C
      go_wp2_with fail
      generalize w2.alloc (.cells #[.int .i64 I, .int .i64 J] 26) = v at *
      generalize w2.heap.size = bc at *
      go_loopw [8, 44] (fun s x wr => ∃ (sm : Bool) (i : Nat), i ≤ n ∧ s = .bool sm ∧ x = .int .i64 i ∧ (sm = true → bd = true) ∧ (∀ a t, a < i → a ≤ t → t < n → PosW n A B U D a t → sm = true) ∧ Below v.heap.size v wr) (fun _ x _ => n - (intOf x).toNat)
      case atStart => exact ⟨false, 0, Nat.zero_le _, rfl, rfl, fun h => (by cases h), fun a t h => absurd h (Nat.not_lt_zero _), Below.refl _ _⟩
      case round =>
        obtain ⟨sm, i, hi, rfl, rfl, h2, h3, hb⟩ := hrel
        have H2 := Lib.hid h2
        have H3 := Lib.hid h3
        have HB3 := Lib.hid hb
        clear h2 h3 hb
        by_cases g1 : i < n
        · have g2 : (i : Int) < n := by omega
          have g3 : (0 : Int) ≤ i := Int.natCast_nonneg i
          go_wp2_with fail
          go_loopw [8, 10] (fun s x wr => ∃ (sm : Bool) (k : Nat), i ≤ k ∧ k ≤ n ∧ s = .bool sm ∧ x = .int .i64 k ∧ (sm = true → bd = true) ∧ (∀ a t, a < i ∨ (a = i ∧ t < k) → a ≤ t → t < n → PosW n A B U D a t → sm = true) ∧ Below v.heap.size v wr) (fun _ x _ => n - (intOf x).toNat)
          case atStart => exact ⟨sm, i, Nat.le_refl _, hi, rfl, rfl, H2.out, fun a t h ht => h.elim (fun h => H3.out a t h ht) (fun h => absurd ht (by omega)), HB3.out⟩
          case round =>
            clear H2 H3 HB3
            obtain ⟨sm, k, hik, hk, rfl, rfl, h2, h3, hb⟩ := hrel
            have H2 := Lib.hid h2
            have H3 := Lib.hid h3
            have HB3 := Lib.hid hb
            clear h2 h3 hb
            by_cases k1 : k < n
            · have k2 : (k : Int) < n := by omega
              have k3 : (0 : Int) ≤ k := Int.natCast_nonneg k
              have HWd := Lib.hid (fun w => wide_any n (by omega) (by omega) w)
              go_wp2_with fail
              refine (HWd.out _).mono ?_
              rintro e w3 ⟨⟨lb, hlb, rfl, hL⟩, hb3⟩
              have HB4 := Lib.hid (thn HB3.out hb3)
              obtain ⟨b, off, rfl, hbw, hP⟩ := HW.out.el (by omega)
              have hpi := hP.next hbw HB4.out i g1
              have hpk := hP.next hbw HB4.out k k1
              obtain ⟨a0, a1⟩ := hpi
              obtain ⟨a2, a3⟩ := hpk
              have hlb2 : b ≠ lb := fun e => by have := HB3.out.size; omega
              have HL := Lib.hid hL
              have HX := Lib.hid (And.intro hbw hlb)
              clear hL hP hlb hbw hb3
              have hne : ¬ lb = b := fun e => hlb2 e.symm
              have f0 := HL.out.f (i * 2) (by omega)
              have f1 := HL.out.f (i * 2 + 1) (by omega)
              have l0 := HL.out.ca i g1
              have l1 := HL.out.cb i g1
              by_cases x1 : i = k
              · subst x1
                have f2 := f0
                have f3 := f1
                have l2 := l0
                have l3 := l1
                have n1 := hne
                have n2 := hne
                have n3 := hne
                have n4 := hne
                go_wp2_with fail
                go_region_held3 (fun w' => w'.cell? ⟨b, off + i * 2, none⟩ = some (.int .i64 (A i)) ∧ w'.cell? ⟨b, off + i * 2 + 1, none⟩ = some (.int .i64 (B i)) ∧ w'.cell? ⟨b, off + i * 2, none⟩ = some (.int .i64 (A i)) ∧ w'.cell? ⟨b, off + i * 2 + 1, none⟩ = some (.int .i64 (B i))) (first | exact ⟨a0, a1, a2, a3⟩ | (refine ⟨?_, ?_, ?_, ?_⟩ <;> repeat' (first | with_reducible exact a0 | with_reducible exact a1 | with_reducible exact a2 | with_reducible exact a3 | with_reducible refine far_set hne ?_ | with_reducible refine far_drew ?_)) | go_keep) (fail)
                clear a0 a1 a2 a3 f0 f1 f2 f3 l0 l1 l2 l3 n1 n2 n3 n4 hne hlb2
                have hlv : v.heap.size ≤ lb := Nat.le_trans HB3.out.size HX.out.2
                have HR := Lib.hid (((HL.out.two (A := A) (B := B) g1 g1).next (bdrew _)).s2 (by unfold maxLen; omega))
                have HB5 := Lib.hid (thn ((((HB4.out.setCell (p := ⟨lb, i * 2, none⟩) hlv (.int .i64 (A i))).setCell (p := ⟨lb, i * 2 + 1, none⟩) hlv (.int .i64 (B i))).setCell (p := ⟨lb, i * 2, none⟩) hlv (.int .i64 (A i))).setCell (p := ⟨lb, i * 2 + 1, none⟩) hlv (.int .i64 (B i))) (bdrew _))
                clear HL HX HB4 HWd hlv
                generalize ((((w3.setCell ⟨lb, i * 2, none⟩ (.int .i64 (A i))).setCell ⟨lb, i * 2 + 1, none⟩ (.int .i64 (B i))).setCell ⟨lb, i * 2, none⟩ (.int .i64 (A i))).setCell ⟨lb, i * 2 + 1, none⟩ (.int .i64 (B i))).drew = w4 at *
                go_wp2_with fail
                refine (conflicts_any _ p n n m d _ _ U D w4 HR.out (HS.out.next HB5.out)).mono ?_
                rintro e w5 ⟨hE, hb⟩
                have HB6 := Lib.hid (thn HB5.out hb)
                clear hb HR HB5
                rcases hE with ⟨hK, _⟩ | ⟨_, hN, rfl⟩ | ⟨_, a, t, hat, rfl⟩
                · exact absurd (HK.out.wide i i) hK
                · have HN := Lib.hid hN
                  have HB7 := Lib.hid (alc HB6.out (.cells #[.int .i64 0, .int .i64 0] 26))
                  clear hN HB6
                  cases bd
                  · cases sm
                    · go_wp2_with fail
                      all_goals (first
                        | exact ⟨⟨_, i + 1, by omega, g1, rfl, rfl, (by intro h; first | trivial | exact H2.out h | cases h), (fun a t h1 h2 h3 h4 => by
                            by_cases e : a = i ∧ t = i
                            · exfalso; obtain ⟨rfl, rfl⟩ := e; obtain ⟨a', t', q1, q2, q3⟩ := h4; exact HN.out a' t' ⟨q1, q2, q3⟩
                            · first | rfl | exact H3.out a t (by omega) h2 h3 h4), HB7.out⟩, by simp [intOf]; omega⟩
                        | (have hIi : i = I := by omega
                           subst hIi
                           refine ⟨?_, by simp [intOf]; omega⟩
                           repeat apply Exists.intro
                           exact ⟨⟨_, i + 1, by omega, g1, rfl, rfl, (by intro h; first | trivial | exact H2.out h | cases h), (fun a t h1 h2 h3 h4 => by
                            by_cases e : a = i ∧ t = i
                            · exfalso; obtain ⟨rfl, rfl⟩ := e; obtain ⟨a', t', q1, q2, q3⟩ := h4; exact HN.out a' t' ⟨q1, q2, q3⟩
                            · first | rfl | exact H3.out a t (by omega) h2 h3 h4), HB7.out⟩, rfl⟩))
                    · exact absurd (H2.out rfl) (by decide)
                  · have hg := HT.out rfl
                    have hni : ¬ ((I : Int) = i ∧ (J : Int) = i) := fun e => by
                      have e1 : I = i := by omega
                      have e2 : J = i := by omega
                      have hg3 : exv A B U D i i > 0 := by have := hg.2.2; rw [e1, e2] at this; exact this
                      obtain ⟨a, t, h1, h2, h3⟩ := wide_pos (Nat.le_refl i) g1 hg3
                      exact HN.out a t ⟨h1, h2, h3⟩
                    have C := HC.out.next HB7.out
                    obtain ⟨c0, c1, c2, c3, cl⟩ := id C
                    clear hg
                    by_cases i1 : (I : Int) = i
                    · have i2 : ¬ (J : Int) = i := fun e => hni ⟨i1, e⟩
                      clear hni
                      obtain rfl : i = I := by omega
                      clear i1
                      cases sm
                      · go_wp2_with fail
                        all_goals (first
                          | exact ⟨⟨_, i + 1, by omega, g1, rfl, rfl, (by intro h; first | trivial | exact H2.out h | cases h), (fun a t h1 h2 h3 h4 => by
                              by_cases e : a = i ∧ t = i
                              · exfalso; obtain ⟨rfl, rfl⟩ := e; obtain ⟨a', t', q1, q2, q3⟩ := h4; exact HN.out a' t' ⟨q1, q2, q3⟩
                              · first | rfl | exact H3.out a t (by omega) h2 h3 h4), HB7.out⟩, by simp [intOf]; omega⟩
                          | (have hIi : i = I := by omega
                             subst hIi
                             refine ⟨?_, by simp [intOf]; omega⟩
                             repeat apply Exists.intro
                             exact ⟨⟨_, i + 1, by omega, g1, rfl, rfl, (by intro h; first | trivial | exact H2.out h | cases h), (fun a t h1 h2 h3 h4 => by
                              by_cases e : a = i ∧ t = i
                              · exfalso; obtain ⟨rfl, rfl⟩ := e; obtain ⟨a', t', q1, q2, q3⟩ := h4; exact HN.out a' t' ⟨q1, q2, q3⟩
                              · first | rfl | exact H3.out a t (by omega) h2 h3 h4), HB7.out⟩, rfl⟩))
                      · go_wp2_with fail
                        all_goals (first
                          | exact ⟨⟨_, i + 1, by omega, g1, rfl, rfl, (by intro h; first | trivial | exact H2.out h | cases h), (fun a t h1 h2 h3 h4 => by
                              by_cases e : a = i ∧ t = i
                              · exfalso; obtain ⟨rfl, rfl⟩ := e; obtain ⟨a', t', q1, q2, q3⟩ := h4; exact HN.out a' t' ⟨q1, q2, q3⟩
                              · first | rfl | exact H3.out a t (by omega) h2 h3 h4), HB7.out⟩, by simp [intOf]; omega⟩
                          | (have hIi : i = I := by omega
                             subst hIi
                             refine ⟨?_, by simp [intOf]; omega⟩
                             repeat apply Exists.intro
                             exact ⟨⟨_, i + 1, by omega, g1, rfl, rfl, (by intro h; first | trivial | exact H2.out h | cases h), (fun a t h1 h2 h3 h4 => by
                              by_cases e : a = i ∧ t = i
                              · exfalso; obtain ⟨rfl, rfl⟩ := e; obtain ⟨a', t', q1, q2, q3⟩ := h4; exact HN.out a' t' ⟨q1, q2, q3⟩
                              · first | rfl | exact H3.out a t (by omega) h2 h3 h4), HB7.out⟩, rfl⟩))
                    · clear hni
                      cases sm
                      · go_wp2_with fail
                        all_goals (first
                          | exact ⟨⟨_, i + 1, by omega, g1, rfl, rfl, (by intro h; first | trivial | exact H2.out h | cases h), (fun a t h1 h2 h3 h4 => by
                              by_cases e : a = i ∧ t = i
                              · exfalso; obtain ⟨rfl, rfl⟩ := e; obtain ⟨a', t', q1, q2, q3⟩ := h4; exact HN.out a' t' ⟨q1, q2, q3⟩
                              · first | rfl | exact H3.out a t (by omega) h2 h3 h4), HB7.out⟩, by simp [intOf]; omega⟩
                          | (have hIi : i = I := by omega
                             subst hIi
                             refine ⟨?_, by simp [intOf]; omega⟩
                             repeat apply Exists.intro
                             exact ⟨⟨_, i + 1, by omega, g1, rfl, rfl, (by intro h; first | trivial | exact H2.out h | cases h), (fun a t h1 h2 h3 h4 => by
                              by_cases e : a = i ∧ t = i
                              · exfalso; obtain ⟨rfl, rfl⟩ := e; obtain ⟨a', t', q1, q2, q3⟩ := h4; exact HN.out a' t' ⟨q1, q2, q3⟩
                              · first | rfl | exact H3.out a t (by omega) h2 h3 h4), HB7.out⟩, rfl⟩))
                      · go_wp2_with fail
                        all_goals (first
                          | exact ⟨⟨_, i + 1, by omega, g1, rfl, rfl, (by intro h; first | trivial | exact H2.out h | cases h), (fun a t h1 h2 h3 h4 => by
                              by_cases e : a = i ∧ t = i
                              · exfalso; obtain ⟨rfl, rfl⟩ := e; obtain ⟨a', t', q1, q2, q3⟩ := h4; exact HN.out a' t' ⟨q1, q2, q3⟩
                              · first | rfl | exact H3.out a t (by omega) h2 h3 h4), HB7.out⟩, by simp [intOf]; omega⟩
                          | (have hIi : i = I := by omega
                             subst hIi
                             refine ⟨?_, by simp [intOf]; omega⟩
                             repeat apply Exists.intro
                             exact ⟨⟨_, i + 1, by omega, g1, rfl, rfl, (by intro h; first | trivial | exact H2.out h | cases h), (fun a t h1 h2 h3 h4 => by
                              by_cases e : a = i ∧ t = i
                              · exfalso; obtain ⟨rfl, rfl⟩ := e; obtain ⟨a', t', q1, q2, q3⟩ := h4; exact HN.out a' t' ⟨q1, q2, q3⟩
                              · first | rfl | exact H3.out a t (by omega) h2 h3 h4), HB7.out⟩, rfl⟩))
                · have hbd : bd = true := by
                    cases bd
                    · obtain ⟨a', t', h1, h2, h3⟩ := pos_wide HK.out ⟨a, t, hat⟩
                      exact absurd ⟨h1, h2, h3⟩ (HF.out rfl a' t')
                    · rfl
                  have HB7 := Lib.hid (alc HB6.out (.cells #[.int .i64 a, .int .i64 t] 26))
                  clear hat HB6
                  subst hbd
                  cases sm
                  · go_wp2_with fail
                    all_goals (first
                      | exact ⟨⟨_, i + 1, by omega, g1, rfl, rfl, (by intro h; first | trivial | exact H2.out h | cases h), (fun _ _ _ _ _ _ => rfl), HB7.out⟩, by simp [intOf]; omega⟩
                      | (have hIi : i = I := by omega
                         subst hIi
                         refine ⟨?_, by simp [intOf]; omega⟩
                         repeat apply Exists.intro
                         exact ⟨⟨_, i + 1, by omega, g1, rfl, rfl, (by intro h; first | trivial | exact H2.out h | cases h), (fun _ _ _ _ _ _ => rfl), HB7.out⟩, rfl⟩))
                  · go_wp2_with fail
                    all_goals (first
                      | exact ⟨⟨_, i + 1, by omega, g1, rfl, rfl, (by intro h; first | trivial | exact H2.out h | cases h), (fun _ _ _ _ _ _ => rfl), HB7.out⟩, by simp [intOf]; omega⟩
                      | (have hIi : i = I := by omega
                         subst hIi
                         refine ⟨?_, by simp [intOf]; omega⟩
                         repeat apply Exists.intro
                         exact ⟨⟨_, i + 1, by omega, g1, rfl, rfl, (by intro h; first | trivial | exact H2.out h | cases h), (fun _ _ _ _ _ _ => rfl), HB7.out⟩, rfl⟩))
              · have f2 := HL.out.f (k * 2) (by omega)
                have f3 := HL.out.f (k * 2 + 1) (by omega)
                have l2 := HL.out.ca k k1
                have l3 := HL.out.cb k k1
                have n1 : ¬ k * 2 = i * 2 := by omega
                have n2 : ¬ k * 2 = i * 2 + 1 := by omega
                have n3 : ¬ k * 2 + 1 = i * 2 := by omega
                have n4 : ¬ k = i := fun e => x1 e.symm
                go_wp2_with fail
                go_region_held3 (fun w' => w'.cell? ⟨b, off + i * 2, none⟩ = some (.int .i64 (A i)) ∧ w'.cell? ⟨b, off + i * 2 + 1, none⟩ = some (.int .i64 (B i)) ∧ w'.cell? ⟨b, off + k * 2, none⟩ = some (.int .i64 (A k)) ∧ w'.cell? ⟨b, off + k * 2 + 1, none⟩ = some (.int .i64 (B k))) (first | exact ⟨a0, a1, a2, a3⟩ | (refine ⟨?_, ?_, ?_, ?_⟩ <;> repeat' (first | with_reducible exact a0 | with_reducible exact a1 | with_reducible exact a2 | with_reducible exact a3 | with_reducible refine far_set hne ?_ | with_reducible refine far_drew ?_)) | go_keep) (fail)
                clear a0 a1 a2 a3 f0 f1 f2 f3 l0 l1 l2 l3 n1 n2 n3 n4 hne hlb2
                have hlv : v.heap.size ≤ lb := Nat.le_trans HB3.out.size HX.out.2
                have HR := Lib.hid (((HL.out.two (A := A) (B := B) g1 k1).next (bdrew _)).s2 (by unfold maxLen; omega))
                have HB5 := Lib.hid (thn ((((HB4.out.setCell (p := ⟨lb, i * 2, none⟩) hlv (.int .i64 (A i))).setCell (p := ⟨lb, i * 2 + 1, none⟩) hlv (.int .i64 (B i))).setCell (p := ⟨lb, k * 2, none⟩) hlv (.int .i64 (A k))).setCell (p := ⟨lb, k * 2 + 1, none⟩) hlv (.int .i64 (B k))) (bdrew _))
                clear HL HX HB4 HWd hlv
                generalize ((((w3.setCell ⟨lb, i * 2, none⟩ (.int .i64 (A i))).setCell ⟨lb, i * 2 + 1, none⟩ (.int .i64 (B i))).setCell ⟨lb, k * 2, none⟩ (.int .i64 (A k))).setCell ⟨lb, k * 2 + 1, none⟩ (.int .i64 (B k))).drew = w4 at *
                go_wp2_with fail
                refine (conflicts_any _ p n n m d _ _ U D w4 HR.out (HS.out.next HB5.out)).mono ?_
                rintro e w5 ⟨hE, hb⟩
                have HB6 := Lib.hid (thn HB5.out hb)
                clear hb HR HB5
                rcases hE with ⟨hK, _⟩ | ⟨_, hN, rfl⟩ | ⟨_, a, t, hat, rfl⟩
                · exact absurd (HK.out.wide i k) hK
                · have HN := Lib.hid hN
                  have HB7 := Lib.hid (alc HB6.out (.cells #[.int .i64 0, .int .i64 0] 26))
                  clear hN HB6
                  cases bd
                  · cases sm
                    · go_wp2_with fail
                      all_goals (first
                        | exact ⟨⟨_, k + 1, by omega, k1, rfl, rfl, (by intro h; first | trivial | exact H2.out h | cases h), (fun a t h1 h2 h3 h4 => by
                            by_cases e : a = i ∧ t = k
                            · exfalso; obtain ⟨rfl, rfl⟩ := e; obtain ⟨a', t', q1, q2, q3⟩ := h4; exact HN.out a' t' ⟨q1, q2, q3⟩
                            · first | rfl | exact H3.out a t (by omega) h2 h3 h4), HB7.out⟩, by simp [intOf]; omega⟩
                        | (have hIi : i = I := by omega
                           subst hIi
                           refine ⟨?_, by simp [intOf]; omega⟩
                           repeat apply Exists.intro
                           exact ⟨⟨_, k + 1, by omega, k1, rfl, rfl, (by intro h; first | trivial | exact H2.out h | cases h), (fun a t h1 h2 h3 h4 => by
                            by_cases e : a = i ∧ t = k
                            · exfalso; obtain ⟨rfl, rfl⟩ := e; obtain ⟨a', t', q1, q2, q3⟩ := h4; exact HN.out a' t' ⟨q1, q2, q3⟩
                            · first | rfl | exact H3.out a t (by omega) h2 h3 h4), HB7.out⟩, rfl⟩))
                    · exact absurd (H2.out rfl) (by decide)
                  · have hg := HT.out rfl
                    have hni : ¬ ((I : Int) = i ∧ (J : Int) = k) := fun e => by
                      have e1 : I = i := by omega
                      have e2 : J = k := by omega
                      have hg3 : exv A B U D i k > 0 := by have := hg.2.2; rw [e1, e2] at this; exact this
                      obtain ⟨a, t, h1, h2, h3⟩ := wide_pos hik k1 hg3
                      exact HN.out a t ⟨h1, h2, h3⟩
                    have C := HC.out.next HB7.out
                    obtain ⟨c0, c1, c2, c3, cl⟩ := id C
                    clear hg
                    by_cases i1 : (I : Int) = i
                    · have i2 : ¬ (J : Int) = k := fun e => hni ⟨i1, e⟩
                      clear hni
                      obtain rfl : i = I := by omega
                      clear i1
                      cases sm
                      · go_wp2_with fail
                        all_goals (first
                          | exact ⟨⟨_, k + 1, by omega, k1, rfl, rfl, (by intro h; first | trivial | exact H2.out h | cases h), (fun a t h1 h2 h3 h4 => by
                              by_cases e : a = i ∧ t = k
                              · exfalso; obtain ⟨rfl, rfl⟩ := e; obtain ⟨a', t', q1, q2, q3⟩ := h4; exact HN.out a' t' ⟨q1, q2, q3⟩
                              · first | rfl | exact H3.out a t (by omega) h2 h3 h4), HB7.out⟩, by simp [intOf]; omega⟩
                          | (have hIi : i = I := by omega
                             subst hIi
                             refine ⟨?_, by simp [intOf]; omega⟩
                             repeat apply Exists.intro
                             exact ⟨⟨_, k + 1, by omega, k1, rfl, rfl, (by intro h; first | trivial | exact H2.out h | cases h), (fun a t h1 h2 h3 h4 => by
                              by_cases e : a = i ∧ t = k
                              · exfalso; obtain ⟨rfl, rfl⟩ := e; obtain ⟨a', t', q1, q2, q3⟩ := h4; exact HN.out a' t' ⟨q1, q2, q3⟩
                              · first | rfl | exact H3.out a t (by omega) h2 h3 h4), HB7.out⟩, rfl⟩))
                      · go_wp2_with fail
                        all_goals (first
                          | exact ⟨⟨_, k + 1, by omega, k1, rfl, rfl, (by intro h; first | trivial | exact H2.out h | cases h), (fun a t h1 h2 h3 h4 => by
                              by_cases e : a = i ∧ t = k
                              · exfalso; obtain ⟨rfl, rfl⟩ := e; obtain ⟨a', t', q1, q2, q3⟩ := h4; exact HN.out a' t' ⟨q1, q2, q3⟩
                              · first | rfl | exact H3.out a t (by omega) h2 h3 h4), HB7.out⟩, by simp [intOf]; omega⟩
                          | (have hIi : i = I := by omega
                             subst hIi
                             refine ⟨?_, by simp [intOf]; omega⟩
                             repeat apply Exists.intro
                             exact ⟨⟨_, k + 1, by omega, k1, rfl, rfl, (by intro h; first | trivial | exact H2.out h | cases h), (fun a t h1 h2 h3 h4 => by
                              by_cases e : a = i ∧ t = k
                              · exfalso; obtain ⟨rfl, rfl⟩ := e; obtain ⟨a', t', q1, q2, q3⟩ := h4; exact HN.out a' t' ⟨q1, q2, q3⟩
                              · first | rfl | exact H3.out a t (by omega) h2 h3 h4), HB7.out⟩, rfl⟩))
                    · clear hni
                      cases sm
                      · go_wp2_with fail
                        all_goals (first
                          | exact ⟨⟨_, k + 1, by omega, k1, rfl, rfl, (by intro h; first | trivial | exact H2.out h | cases h), (fun a t h1 h2 h3 h4 => by
                              by_cases e : a = i ∧ t = k
                              · exfalso; obtain ⟨rfl, rfl⟩ := e; obtain ⟨a', t', q1, q2, q3⟩ := h4; exact HN.out a' t' ⟨q1, q2, q3⟩
                              · first | rfl | exact H3.out a t (by omega) h2 h3 h4), HB7.out⟩, by simp [intOf]; omega⟩
                          | (have hIi : i = I := by omega
                             subst hIi
                             refine ⟨?_, by simp [intOf]; omega⟩
                             repeat apply Exists.intro
                             exact ⟨⟨_, k + 1, by omega, k1, rfl, rfl, (by intro h; first | trivial | exact H2.out h | cases h), (fun a t h1 h2 h3 h4 => by
                              by_cases e : a = i ∧ t = k
                              · exfalso; obtain ⟨rfl, rfl⟩ := e; obtain ⟨a', t', q1, q2, q3⟩ := h4; exact HN.out a' t' ⟨q1, q2, q3⟩
                              · first | rfl | exact H3.out a t (by omega) h2 h3 h4), HB7.out⟩, rfl⟩))
                      · go_wp2_with fail
                        all_goals (first
                          | exact ⟨⟨_, k + 1, by omega, k1, rfl, rfl, (by intro h; first | trivial | exact H2.out h | cases h), (fun a t h1 h2 h3 h4 => by
                              by_cases e : a = i ∧ t = k
                              · exfalso; obtain ⟨rfl, rfl⟩ := e; obtain ⟨a', t', q1, q2, q3⟩ := h4; exact HN.out a' t' ⟨q1, q2, q3⟩
                              · first | rfl | exact H3.out a t (by omega) h2 h3 h4), HB7.out⟩, by simp [intOf]; omega⟩
                          | (have hIi : i = I := by omega
                             subst hIi
                             refine ⟨?_, by simp [intOf]; omega⟩
                             repeat apply Exists.intro
                             exact ⟨⟨_, k + 1, by omega, k1, rfl, rfl, (by intro h; first | trivial | exact H2.out h | cases h), (fun a t h1 h2 h3 h4 => by
                              by_cases e : a = i ∧ t = k
                              · exfalso; obtain ⟨rfl, rfl⟩ := e; obtain ⟨a', t', q1, q2, q3⟩ := h4; exact HN.out a' t' ⟨q1, q2, q3⟩
                              · first | rfl | exact H3.out a t (by omega) h2 h3 h4), HB7.out⟩, rfl⟩))
                · have hbd : bd = true := by
                    cases bd
                    · obtain ⟨a', t', h1, h2, h3⟩ := pos_wide HK.out ⟨a, t, hat⟩
                      exact absurd ⟨h1, h2, h3⟩ (HF.out rfl a' t')
                    · rfl
                  have HB7 := Lib.hid (alc HB6.out (.cells #[.int .i64 a, .int .i64 t] 26))
                  clear hat HB6
                  subst hbd
                  cases sm
                  · go_wp2_with fail
                    all_goals (first
                      | exact ⟨⟨_, k + 1, by omega, k1, rfl, rfl, (by intro h; first | trivial | exact H2.out h | cases h), (fun _ _ _ _ _ _ => rfl), HB7.out⟩, by simp [intOf]; omega⟩
                      | (have hIi : i = I := by omega
                         subst hIi
                         refine ⟨?_, by simp [intOf]; omega⟩
                         repeat apply Exists.intro
                         exact ⟨⟨_, k + 1, by omega, k1, rfl, rfl, (by intro h; first | trivial | exact H2.out h | cases h), (fun _ _ _ _ _ _ => rfl), HB7.out⟩, rfl⟩))
                  · go_wp2_with fail
                    all_goals (first
                      | exact ⟨⟨_, k + 1, by omega, k1, rfl, rfl, (by intro h; first | trivial | exact H2.out h | cases h), (fun _ _ _ _ _ _ => rfl), HB7.out⟩, by simp [intOf]; omega⟩
                      | (have hIi : i = I := by omega
                         subst hIi
                         refine ⟨?_, by simp [intOf]; omega⟩
                         repeat apply Exists.intro
                         exact ⟨⟨_, k + 1, by omega, k1, rfl, rfl, (by intro h; first | trivial | exact H2.out h | cases h), (fun _ _ _ _ _ _ => rfl), HB7.out⟩, rfl⟩))
            · have k2 : ¬ (k : Int) < n := by omega
              have hkn : k = n := by omega
              go_wp2_with fail
              go_roundw
              case rel => first | exact ⟨sm, i + 1, g1, rfl, rfl, H2.out, fun a t h ht htn hp => H3.out a t (by omega) ht htn hp, HB3.out⟩ | ((repeat apply Exists.intro); exact ⟨⟨sm, i + 1, g1, rfl, rfl, H2.out, fun a t h ht htn hp => H3.out a t (by omega) ht htn hp, HB3.out⟩, rfl⟩)
              case measure => simp [intOf]; omega
        · have g2 : ¬ (i : Int) < n := by omega
          have hin : i = n := by omega
          have hsm : sm = bd := by
            cases bd
            · cases sm
              · rfl
              · exact (H2.out rfl).symm
            · have hg := HT.out rfl
              exact H3.out I J (by have := hg.1; have := hg.2.1; omega) hg.1 hg.2.1 (wide_pos hg.1 hg.2.1 hg.2.2)
          subst hsm
          have HB8 := Lib.hid (thn HB2.out HB3.out)
          go_wp2_with fail
          go_ret
          exact ⟨ret_bool (by simp), HB8.out⟩
end Go.Proofs.Ytkhklhibimihfaa
