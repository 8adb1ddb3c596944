/- The example of a chain: constraint.Tighten and profile.Greatest at it. -/
import Derived.Test.YtkhklhibimihfaaPairG
import Derived.StillTailTactics
namespace Go.Proofs.Ytkhklhibimihfaa
open Go.RowKit Go.Joins Fdk
set_option linter.unusedVariables false
def two (x y : Int) (t : Nat) : Int := if t = 0 then x else y
theorem s2_four {w : World} {b : Nat} {x y z u : Int} (h : C4 w b (.int .i64 x) (.int .i64 y) (.int .i64 z) (.int .i64 u)) : S2 w (some ⟨b, 0, none⟩) 2 2 (two x z) (two y u) :=
  ⟨by unfold maxLen; omega, fun _ => ⟨by omega, by unfold maxLen; omega⟩, fun _ => ⟨b, 0, rfl, h.lt, fun i hi => by
    match i, hi with
    | 0, _ => exact ⟨h.c0, h.c1⟩
    | 1, _ => exact ⟨h.c2, h.c3⟩⟩⟩
theorem s2_two {w : World} {b : Nat} {x y : Int} (h : C2 w b (.int .i64 x) (.int .i64 y)) : S2 w (some ⟨b, 0, none⟩) 1 1 (two x 0) (two y 0) :=
  ⟨by unfold maxLen; omega, fun _ => ⟨by omega, by unfold maxLen; omega⟩, fun _ => ⟨b, 0, rfl, h.lt, fun i hi => by
    match i, hi with
    | 0, _ => exact ⟨h.c0, h.c1⟩⟩⟩
theorem ex_ok (u d : Int) (hu : 0 ≤ u ∧ u ≤ 45) (hd : 0 ≤ d ∧ d ≤ 5) : Okc 2 1 (two 0 50) (two 10 60) (two u 0) (two d 0) :=
  ⟨by omega, rfl, fun i hi => by
    match i, hi with
    | 0, _ => exact ⟨by decide, by decide⟩
    | 1, _ => exact ⟨by decide, by decide⟩, fun i hi => by
    match i, hi with
    | 0, _ => exact ⟨by show 0 ≤ u ∧ u ≤ _; omega, by show 0 ≤ d ∧ d ≤ _; omega⟩⟩
theorem ex_45 : ∀ i j, ¬ Good 2 (two 0 50) (two 10 60) (two 45 0) (two 5 0) i j := by
  rintro i j ⟨h1, h2, h3⟩
  rcases (by omega : (i = 0 ∧ j = 0) ∨ (i = 0 ∧ j = 1) ∨ (i = 1 ∧ j = 1)) with ⟨rfl, rfl⟩ | ⟨rfl, rfl⟩ | ⟨rfl, rfl⟩ <;> exact absurd h3 (by decide)
theorem ex_30 : Good 2 (two 0 50) (two 10 60) (two 30 0) (two 5 0) 0 1 := ⟨by omega, by omega, by decide⟩
theorem ex_30' {i j : Nat} (h : Good 2 (two 0 50) (two 10 60) (two 30 0) (two 5 0) i j) : i = 0 ∧ j = 1 := by
  obtain ⟨h1, h2, h3⟩ := h
  rcases (by omega : (i = 0 ∧ j = 0) ∨ (i = 0 ∧ j = 1) ∨ (i = 1 ∧ j = 1)) with ⟨rfl, rfl⟩ | ⟨rfl, rfl⟩ | ⟨rfl, rfl⟩
  · exact absurd h3 (by decide)
  · exact ⟨rfl, rfl⟩
  · exact absurd h3 (by decide)
theorem c4_own {w : World} {base g cap : Nat} {x y z u : Value} (h : w.ownsRow base 32 2 (.slice (some ⟨g, 0, none⟩) 2 cap) 2 [x, y, z, u]) : C4 w g x y z u ∧ base ≤ g ∧ 2 ≤ cap ∧ cap ≤ maxLen := by
  have hc := h.cells (g := g) rfl
  have hfl : ∀ k, ((⟨g, 0, none⟩ : Addr).add k) = ⟨g, k, none⟩ := fun k => by unfold Addr.add; split <;> simp_all
  simp only [hfl] at hc
  rcases h.2 with ⟨h0, _⟩ | ⟨g', cap', cur, hv, hb, hg, h3, h4, _⟩
  · cases h0
  · cases hv
    exact ⟨⟨hc 0 _ rfl, hc 1 _ rfl, hc 2 _ rfl, hc 3 _ rfl, frozen_of_row _ _ _ _ _ hg, frozen_of_row _ _ _ _ _ hg, frozen_of_row _ _ _ _ _ hg, frozen_of_row _ _ _ _ _ hg, (h.lt g rfl).2⟩, hb, h3, h4⟩
set_option maxHeartbeats 4000000 in
theorem tighten_ex (b s : Nat) (w : World) (hW : C4 w b (.int .i64 0) (.int .i64 10) (.int .i64 50) (.int .i64 60)) (hS : C2 w s (.int .i64 45) (.int .i64 5)) :
    Calls Try.prog 9 #[.slice (some ⟨b, 0, none⟩) 2 2, .slice (some ⟨s, 0, none⟩) 1 1] w fun e w' => (∃ g cap, w.heap.size ≤ g ∧ cap ≤ maxLen ∧ 2 ≤ cap ∧ e = .returned (.tuple #[.slice (some ⟨g, 0, none⟩) 2 cap, .int .i64 0]) ∧ C4 w' g (.int .i64 5) (.int .i64 10) (.int .i64 50) (.int .i64 55)) ∧ Below w.heap.size w w' := by
  have HA := Lib.hid (all_any _ _ _ _ _ _ _ _ _ _ w (s2_four hW) (s2_two hS))
  obtain ⟨i0, hi0, hz0, hz1, hz2⟩ := info_parts Try.info_w
  go_enter Try.func9, Try.ntmps9
  go_wp2_with fail
  refine HA.out.mono ?_
  rintro e w1 ⟨hE, hb⟩
  rcases hE with ⟨hK, _⟩ | ⟨_, _, rfl⟩ | ⟨_, v, _, hF⟩
  · exact absurd (ex_ok 45 5 (by omega) (by omega)) hK
  · replace hW := hW.next hb
    replace hS := hS.next hb
    have HB := Lib.hid hb
    have hbs := hb.size
    clear hb HA
    go_wp2_with (at_builtin; refine wpList_append_lies _ rfl _ _ 22 rfl w.heap.size 32 i0 (.agg #[.int .i64 0, .int .i64 0]) 2 16 Try.underlying22 hi0 hz0 hz1 hz2 rfl (by decide) _ 0 [] rfl (World.ownsRow_nil _ _ _ _) ⟨b, 0, none⟩ 2 2 [.int .i64 0, .int .i64 10, .int .i64 50, .int .i64 60] rfl rfl ?hnews ?hone (by decide) ?h63 (by decide) hbs w1.heap.size rfl ?_)
    case hnews =>
      have hfl : ∀ k, ((⟨b, 0, none⟩ : Addr).add k) = ⟨b, k, none⟩ := fun k => by unfold Addr.add; split <;> simp_all
      intro j u hj
      rw [hfl]
      match j, hj with
      | 0, hj => cases hj; exact hW.c0
      | 1, hj => cases hj; exact hW.c1
      | 2, hj => cases hj; exact hW.c2
      | 3, hj => cases hj; exact hW.c3
    case hone => intro u hu; simp at hu; rcases hu with rfl | rfl | rfl | rfl <;> rfl
    case h63 => unfold maxLen; omega
    intro g cap w2 hown hgrow hat hlt
    obtain ⟨G, hg, k2, k3⟩ := c4_own hown
    have hgs : g ≠ s := fun e => by rcases hat with h | h; · cases h
                                    · have := hS.lt; omega
    have hb2 : Below w1.heap.size w1 w2 := below_gr (Below.refl _ _) hgrow (fun k hk => by cases hk)
    replace HB := Lib.hid (thn HB.out hb2)
    replace hS := hS.next hb2
    clear hW hown hgrow hat hlt hb2 hi0 hz0 hz1 hz2 hbs
    have hk3 : (2 : Int) ≤ cap := by omega
    obtain ⟨c0, c1, c2, c3, f0, f1, f2, f3, gl⟩ := id G
    obtain ⟨s0, s1, s2, s3, sl⟩ := id hS
    go_wp2_with fail
    refine wp_loop_rounds 3 ?_
    rw [rounds_succ]
    go_wp2_with fail
    go_still_tail 23, (by kernel_rfl)
    rw [show IntKind.i64.wrap 0 = 0 from rfl]
    repeat still_step
    rw [show IntKind.i64.wrap 0 = 0 from rfl]
    repeat still_step
    try refine wpStill_nil ?_
    change wpList _ _ _ _ _ w2.drew
    clear c0 c1 c2 c3 f0 f1 f2 f3 gl s0 s1 s2 s3 sl
    replace G := G.drew
    replace hS := hS.drew
    replace HB := Lib.hid (thn HB.out (bdrew _))
    generalize w2.drew = v2 at *
    obtain ⟨c0, c1, c2, c3, f0, f1, f2, f3, gl⟩ := id G
    obtain ⟨s0, s1, s2, s3, sl⟩ := id hS
    go_wp2_with fail
    clear c0 c1 c2 c3 f0 f1 f2 f3 gl s0 s1 s2 s3 sl
    replace G := G.put3 (.int .i64 55)
    replace hS := hS.else (p := ⟨g, 3, none⟩) hgs (.int .i64 55)
    replace HB := Lib.hid (HB.out.setCell (p := ⟨g, 3, none⟩) hg (.int .i64 55))
    generalize v2.setCell ⟨g, 3, none⟩ (.int .i64 55) = w3 at *
    obtain ⟨c0, c1, c2, c3, f0, f1, f2, f3, gl⟩ := id G
    obtain ⟨s0, s1, s2, s3, sl⟩ := id hS
    go_still_tail 23, (by kernel_rfl)
    rw [show IntKind.i64.wrap 0 = 0 from rfl]
    repeat still_step
    rw [show IntKind.i64.wrap 0 = 0 from rfl]
    repeat still_step
    try refine wpStill_nil ?_
    change wpList _ _ _ _ _ w3.drew
    clear c0 c1 c2 c3 f0 f1 f2 f3 gl s0 s1 s2 s3 sl
    replace G := G.drew
    replace hS := hS.drew
    replace HB := Lib.hid (thn HB.out (bdrew _))
    generalize w3.drew = v3 at *
    obtain ⟨c0, c1, c2, c3, f0, f1, f2, f3, gl⟩ := id G
    obtain ⟨s0, s1, s2, s3, sl⟩ := id hS
    go_wp2_with fail
    clear c0 c1 c2 c3 f0 f1 f2 f3 gl s0 s1 s2 s3 sl
    replace G := G.put2 (.int .i64 50)
    replace hS := hS.else (p := ⟨g, 2, none⟩) hgs (.int .i64 50)
    replace HB := Lib.hid (HB.out.setCell (p := ⟨g, 2, none⟩) hg (.int .i64 50))
    generalize v3.setCell ⟨g, 2, none⟩ (.int .i64 50) = w4 at *
    obtain ⟨c0, c1, c2, c3, f0, f1, f2, f3, gl⟩ := id G
    obtain ⟨s0, s1, s2, s3, sl⟩ := id hS
    rw [rounds_succ]
    go_wp2_with fail
    refine wp_loop_rounds 3 ?_
    rw [rounds_succ]
    go_wp2_with fail
    go_still_tail 22, (by kernel_rfl)
    rw [show IntKind.i64.wrap 1 = 1 from rfl]
    repeat still_step
    try refine wpStill_nil ?_
    change wpList _ _ _ _ _ w4.drew
    clear c0 c1 c2 c3 f0 f1 f2 f3 gl s0 s1 s2 s3 sl
    replace G := G.drew
    replace hS := hS.drew
    replace HB := Lib.hid (thn HB.out (bdrew _))
    generalize w4.drew = v4 at *
    obtain ⟨c0, c1, c2, c3, f0, f1, f2, f3, gl⟩ := id G
    obtain ⟨s0, s1, s2, s3, sl⟩ := id hS
    go_wp2_with fail
    clear c0 c1 c2 c3 f0 f1 f2 f3 gl s0 s1 s2 s3 sl
    replace G := G.put1 (.int .i64 10)
    replace hS := hS.else (p := ⟨g, 1, none⟩) hgs (.int .i64 10)
    replace HB := Lib.hid (HB.out.setCell (p := ⟨g, 1, none⟩) hg (.int .i64 10))
    generalize v4.setCell ⟨g, 1, none⟩ (.int .i64 10) = w5 at *
    obtain ⟨c0, c1, c2, c3, f0, f1, f2, f3, gl⟩ := id G
    obtain ⟨s0, s1, s2, s3, sl⟩ := id hS
    go_still_tail 22, (by kernel_rfl)
    rw [show IntKind.i64.wrap 1 = 1 from rfl]
    repeat still_step
    try refine wpStill_nil ?_
    change wpList _ _ _ _ _ w5.drew
    clear c0 c1 c2 c3 f0 f1 f2 f3 gl s0 s1 s2 s3 sl
    replace G := G.drew
    replace hS := hS.drew
    replace HB := Lib.hid (thn HB.out (bdrew _))
    generalize w5.drew = v5 at *
    obtain ⟨c0, c1, c2, c3, f0, f1, f2, f3, gl⟩ := id G
    obtain ⟨s0, s1, s2, s3, sl⟩ := id hS
    go_wp2_with fail
    clear c0 c1 c2 c3 f0 f1 f2 f3 gl s0 s1 s2 s3 sl
    replace G := G.put0 (.int .i64 5)
    replace hS := hS.else (p := ⟨g, 0, none⟩) hgs (.int .i64 5)
    replace HB := Lib.hid (HB.out.setCell (p := ⟨g, 0, none⟩) hg (.int .i64 5))
    generalize v5.setCell ⟨g, 0, none⟩ (.int .i64 5) = w6 at *
    obtain ⟨c0, c1, c2, c3, f0, f1, f2, f3, gl⟩ := id G
    obtain ⟨s0, s1, s2, s3, sl⟩ := id hS
    rw [rounds_succ]
    go_wp2_with fail
    go_ret2
    exact ⟨⟨g, cap, hg, k3, k2, rfl, G⟩, HB.out⟩
  · obtain ⟨g, k, cap, i, j, _, _, _, _, _, _, hij⟩ := hF.ex
    exact absurd hij (ex_45 i j)
end Go.Proofs.Ytkhklhibimihfaa
