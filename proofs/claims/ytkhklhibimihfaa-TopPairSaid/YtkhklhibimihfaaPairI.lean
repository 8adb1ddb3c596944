/- The example of a chain: profile.Greatest, bChain. -/
import Derived.Test.YtkhklhibimihfaaPairH
namespace Go.Proofs.Ytkhklhibimihfaa
open Go.RowKit Go.Joins Fdk
set_option linter.unusedVariables false
theorem Try.info_i : (Try.prog.info? 2).map (fun i => (i.zero, i.size, i.bytes)) = some (some (.int .i64 0), 1, 8) := by kernel_rfl
theorem c2_own {w : World} {base g cap : Nat} {x y : Value} (h : w.ownsRow base 2 1 (.slice (some ⟨g, 0, none⟩) 2 cap) 2 [x, y]) : C2 w g x y ∧ base ≤ g := by
  have hc := h.cells (g := g) rfl
  have hfl : ∀ k, ((⟨g, 0, none⟩ : Addr).add k) = ⟨g, k, none⟩ := fun k => by unfold Addr.add; split <;> simp_all
  simp only [hfl] at hc
  rcases h.2 with ⟨h0, _⟩ | ⟨g', cap', cur, hv, hb, hg, h3, h4, _⟩
  · cases h0
  · cases hv
    exact ⟨⟨hc 0 _ rfl, hc 1 _ rfl, frozen_of_row _ _ _ _ _ hg, frozen_of_row _ _ _ _ _ hg, (h.lt g rfl).2⟩, hb⟩
set_option maxHeartbeats 4000000 in
theorem greatest_ex (b s : Nat) (w : World) (hW : C4 w b (.int .i64 0) (.int .i64 10) (.int .i64 50) (.int .i64 60)) (hS : C2 w s (.int .i64 45) (.int .i64 5)) :
    Calls Try.prog 7 #[.slice (some ⟨b, 0, none⟩) 2 2, .slice (some ⟨s, 0, none⟩) 1 1] w fun e w' => (∃ h, w.heap.size ≤ h ∧ e = .returned (.tuple #[.slice (some ⟨h, 0, none⟩) 2 2, .int .i64 0]) ∧ C2 w' h (.int .i64 10) (.int .i64 55)) ∧ Below w.heap.size w w' := by
  have HT := Lib.hid (tighten_ex b s w hW hS)
  obtain ⟨i0, hi0, hz0, hz1, hz2⟩ := info_parts Try.info_i
  clear hW hS
  go_enter Try.func7, Try.ntmps7
  go_wp2_with fail
  refine HT.out.mono ?_
  rintro e w1 ⟨⟨g, cap, hg, hcm, hc2, rfl, G⟩, hb⟩
  have HB := Lib.hid hb
  have hbs := hb.size
  have hk3 : (2 : Int) ≤ cap := by omega
  clear hb HT
  go_wp2_with (at_make; refine wpList_make_full _ rfl _ _ 36 rfl w.heap.size 2 i0 (.int .i64 0) 1 Try.underlying36 hi0 hz0 hz1 .i64 .i64 _ _ 2 rfl rfl rfl rfl ?hb ?h63 hbs ?_)
  case hb => rw [hz2]; omega
  case h63 => unfold maxLen; omega
  intro w2 hown hgrow
  rw [show (madeCells #[Value.int .i64 0] 2).toList = [.int .i64 0, .int .i64 0] from by rw [toList_madeCells_one]; rfl] at hown
  obtain ⟨Z, hz⟩ := c2_own hown
  have hb2 : Below w1.heap.size w1 w2 := below_gr (Below.refl _ _) hgrow (fun k hk => by cases hk)
  have hgz : w1.heap.size ≠ g := by have := G.lt; omega
  replace G := G.next hb2
  replace HB := Lib.hid (thn HB.out hb2)
  clear hown hgrow hb2 hi0 hz0 hz1 hz2 hcm
  generalize w1.heap.size = z at *
  obtain ⟨c0, c1, c2, c3, f0, f1, f2, f3, gl⟩ := id G
  obtain ⟨z0, z1, z2, z3, zl⟩ := id Z
  go_wp2_with fail
  refine wp_loop_rounds 4 ?_
  rw [rounds_succ]
  go_wp2_with fail
  clear c0 c1 c2 c3 f0 f1 f2 f3 gl z0 z1 z2 z3 zl
  replace G := (G.else (p := ⟨z, 0, none⟩) hgz (.int .i64 10)).alc (.cells #[.int .i64 5, .int .i64 10] 32)
  replace Z := (Z.put0 (.int .i64 10)).alc (.cells #[.int .i64 5, .int .i64 10] 32)
  replace HB := Lib.hid (alc (HB.out.setCell (p := ⟨z, 0, none⟩) hz (.int .i64 10)) (.cells #[.int .i64 5, .int .i64 10] 32))
  generalize (w2.setCell ⟨z, 0, none⟩ (.int .i64 10)).alloc (.cells #[.int .i64 5, .int .i64 10] 32) = w3 at *
  obtain ⟨c0, c1, c2, c3, f0, f1, f2, f3, gl⟩ := id G
  obtain ⟨z0, z1, z2, z3, zl⟩ := id Z
  rw [rounds_succ]
  go_wp2_with fail
  clear c0 c1 c2 c3 f0 f1 f2 f3 gl z0 z1 z2 z3 zl
  replace G := (G.else (p := ⟨z, 1, none⟩) hgz (.int .i64 55)).alc (.cells #[.int .i64 50, .int .i64 55] 32)
  replace Z := (Z.put1 (.int .i64 55)).alc (.cells #[.int .i64 50, .int .i64 55] 32)
  replace HB := Lib.hid (alc (HB.out.setCell (p := ⟨z, 1, none⟩) hz (.int .i64 55)) (.cells #[.int .i64 50, .int .i64 55] 32))
  generalize (w3.setCell ⟨z, 1, none⟩ (.int .i64 55)).alloc (.cells #[.int .i64 50, .int .i64 55] 32) = w4 at *
  obtain ⟨c0, c1, c2, c3, f0, f1, f2, f3, gl⟩ := id G
  rw [rounds_succ]
  go_wp2_with fail
  go_ret2
  exact ⟨⟨z, hz, rfl, Z⟩, HB.out⟩
set_option maxHeartbeats 4000000 in
theorem chain_any (w : World) :
    Calls Try.prog 4 #[] w fun e w' => e = .returned (.bool true) ∧ Below w.heap.size w w' := by
  go_enter Try.func4, Try.ntmps4
  go_wp2_with fail
  have P := (c4_new w (.int .i64 0) (.int .i64 10) (.int .i64 50) (.int .i64 60) 32).alc (.cells #[.int .i64 30, .int .i64 5] 35)
  have S := c2_new (w.alloc (.cells #[.int .i64 0, .int .i64 10, .int .i64 50, .int .i64 60] 32)) (.int .i64 30) (.int .i64 5) 35
  rw [show (w.alloc (.cells #[.int .i64 0, .int .i64 10, .int .i64 50, .int .i64 60] 32)).heap.size = w.heap.size + 1 by simp] at S
  have HB := Lib.hid (below_alloc2 w (.cells #[.int .i64 0, .int .i64 10, .int .i64 50, .int .i64 60] 32) (.cells #[.int .i64 30, .int .i64 5] 35))
  generalize (w.alloc (.cells #[.int .i64 0, .int .i64 10, .int .i64 50, .int .i64 60] 32)).alloc (.cells #[.int .i64 30, .int .i64 5] 35) = v1 at *
  refine (conflicts_any _ _ 2 2 1 1 _ _ _ _ v1 (s2_four P) (s2_two S)).mono ?_
  rintro e w1 ⟨hE, hb⟩
  obtain rfl : e = .returned (cnV 0 1 true 0) := by
    rcases hE with ⟨hK, _⟩ | ⟨_, hG, _⟩ | ⟨_, i, j, hij, he⟩
    · exact absurd (ex_ok 30 5 (by omega) (by omega)) hK
    · exact absurd ex_30 (hG 0 1)
    · obtain ⟨rfl, rfl⟩ := ex_30' hij
      exact he
  clear hE
  replace P := P.next hb
  have HB1 := Lib.hid (thn HB.out hb)
  clear HB S hb
  obtain ⟨p0, p1, p2, p3, p4, p5, p6, p7, pl⟩ := id P
  go_wp2_with fail
  clear p0 p1 p2 p3 p4 p5 p6 p7 pl
  replace P := (P.alc (.cells #[.int .i64 0, .int .i64 1] 26)).alc (.cells #[.int .i64 45, .int .i64 5] 35)
  have Q := (c2_new w1 (.int .i64 0) (.int .i64 1) 26).alc (.cells #[.int .i64 45, .int .i64 5] 35)
  have S := c2_new (w1.alloc (.cells #[.int .i64 0, .int .i64 1] 26)) (.int .i64 45) (.int .i64 5) 35
  rw [show (w1.alloc (.cells #[.int .i64 0, .int .i64 1] 26)).heap.size = w1.heap.size + 1 by simp] at S
  have HB2 := Lib.hid (thn HB1.out (below_alloc2 w1 (.cells #[.int .i64 0, .int .i64 1] 26) (.cells #[.int .i64 45, .int .i64 5] 35)))
  clear HB1
  generalize (w1.alloc (.cells #[.int .i64 0, .int .i64 1] 26)).alloc (.cells #[.int .i64 45, .int .i64 5] 35) = v2 at *
  generalize w1.heap.size = bc at *
  refine (greatest_ex _ _ v2 P S).mono ?_
  rintro e w2 ⟨⟨h, _, rfl, Z⟩, hb⟩
  replace Q := Q.next hb
  have HB3 := Lib.hid (thn HB2.out hb)
  clear HB2 P S hb
  obtain ⟨q0, q1, q2, q3, ql⟩ := id Q
  obtain ⟨z0, z1, z2, z3, zl⟩ := id Z
  go_wp2_with fail
  go_ret
  exact ⟨rfl, HB3.out⟩
end Go.Proofs.Ytkhklhibimihfaa
