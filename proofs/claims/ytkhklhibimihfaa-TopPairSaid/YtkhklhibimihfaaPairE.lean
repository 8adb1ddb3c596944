/- The contract of constraint.All. -/
import Derived.Test.YtkhklhibimihfaaPairA
import Derived.Test.YtkhklhibimihfaaPairD
import Derived.Laws.AppendOwnNone
namespace Go.Proofs.Ytkhklhibimihfaa
open Go.RowKit Go.Joins Fdk
set_option linter.unusedVariables false
theorem Try.info_c : (Try.prog.info? 26).map (fun i => (i.zero, i.size, i.bytes)) = some (some (.agg #[.int .i64 0, .int .i64 0]), 2, 16) := by kernel_rfl
abbrev Good (n : Nat) (A B U D : Nat → Int) (i j : Nat) : Prop := i ≤ j ∧ j < n ∧ exv A B U D i j > 0
/-- how All ends. -/
def AllEnd (n m : Nat) (A B U D : Nat → Int) (e : Ending) (w' : World) : Prop :=
  (¬ Okc n m A B U D ∧ ∃ E, E ≠ 0 ∧ e = .returned (.tuple #[.slice none 0 0, .int .i64 E])) ∨
  (Okc n m A B U D ∧ (∀ i j, ¬ Good n A B U D i j) ∧ e = .returned (.tuple #[.slice none 0 0, .int .i64 0])) ∨
  (Okc n m A B U D ∧ ∃ v, e = .returned (.tuple #[v, .int .i64 0]) ∧ Fst (Good n A B U D) w' v)
set_option maxHeartbeats 8000000 in
theorem all_any (q p : Option Addr) (n c m d : Nat) (A B U D : Nat → Int) (w : World) (hW : S2 w q n c A B) (hS : S2 w p m d U D) :
    Calls Try.prog 8 #[.slice q n c, .slice p m d] w fun e w' => AllEnd n m A B U D e w' ∧ Below w.heap.size w w' := by
  have HW := Lib.hid hW
  have HS := Lib.hid hS
  have HC := Lib.hid (check_any q p n c m d A B U D w hW hS)
  have hnx : n ≤ 9223372036854775807 := by have := hW.nm; unfold maxLen at this; omega
  clear hW hS
  obtain ⟨i0, hi0, hz0, hz1, hz2⟩ := info_parts Try.info_c
  have HI := Lib.hid (And.intro hi0 (And.intro hz0 (And.intro hz1 hz2)))
  clear hi0 hz0 hz1 hz2
  go_enter Try.func8, Try.ntmps8
  go_wp2_with fail
  refine HC.out.mono ?_
  rintro e w1 ⟨⟨E, rfl, hE⟩, hb⟩
  rcases hE with ⟨rfl, K⟩ | ⟨hE, K⟩
  · have HK := Lib.hid K
    have hn := K.n64
    have S0 := Lib.hid (((Al.start (Good n A B U D) w).next hb (Nat.le_refl 0)))
    clear K hb HC
    go_wp2_with fail
    have hnz : (n : Int) ≤ 64 := by omega
    go_loopw [7, 8, 19] (fun s p x wr => ∃ (i : Nat) (ls lp : List (Nat × Nat)), i ≤ n ∧ x = .int .i64 i ∧ Al (Good n A B U D) w wr s p ls lp (i * 64) ∧ (∀ a b, a < i → Good n A B U D a b → ls ≠ [] ∨ lp ≠ [])) (fun _ _ x _ => n - (intOf x).toNat)
    case atStart => exact ⟨0, [], [], Nat.zero_le _, rfl, S0.out, fun a b h => absurd h (Nat.not_lt_zero _)⟩
    case round =>
      obtain ⟨i, ls0, lp0, hi, rfl, hA, hV⟩ := hrel
      have HA := Lib.hid hA
      have HV := Lib.hid hV
      clear hA hV S0
      by_cases g1 : i < n
      · have g2 : (i : Int) < n := by omega
        have g3 : (0 : Int) ≤ i := Int.natCast_nonneg i
        go_wp2_with fail
        go_loopw [7, 8, 10] (fun s p y wr => ∃ (j : Nat) (ls lp : List (Nat × Nat)), i ≤ j ∧ j ≤ n ∧ y = .int .i64 j ∧ Al (Good n A B U D) w wr s p ls lp (i * 64 + j) ∧ (∀ a b, a < i ∨ (a = i ∧ b < j) → Good n A B U D a b → ls ≠ [] ∨ lp ≠ [])) (fun _ _ y _ => n - (intOf y).toNat)
        case atStart => exact ⟨i, ls0, lp0, Nat.le_refl _, hi, rfl, HA.out.next (Below.refl _ _) (by omega), fun a b h hg => h.elim (fun h => HV.out a b h hg) (fun h => absurd hg.1 (by omega))⟩
        case round =>
          clear HA HV
          obtain ⟨j, ls, lp, hij, hj, rfl, hA, hV⟩ := hrel
          have HA := Lib.hid hA
          have HV := Lib.hid hV
          clear hA hV
          by_cases k1 : j < n
          · have k2 : (j : Int) < n := by omega
            have k3 : (0 : Int) ≤ j := Int.natCast_nonneg j
            have HX := Lib.hid (fun (w' : World) (h : Below w.heap.size w w') => excess_any q p n c m d A B U D i j w' (HW.out.next h) (HS.out.next h) HK.out hij k1)
            obtain ⟨X, hX⟩ : ∃ X, X = exv A B U D i j := ⟨_, rfl⟩
            rw [← hX] at HX
            have HE := Lib.hid hX
            clear hX
            go_wp2_with fail
            refine (HX.out _ HA.out.be).mono ?_
            rintro e w2 ⟨rfl, hb⟩
            replace HA := Lib.hid (HA.out.next hb (Nat.le_refl _))
            clear hb HX
            by_cases x1 : X ≤ 0
            · go_wp2_with fail
              go_roundw
              case rel => first | exact ⟨j + 1, ls, lp, by omega, k1, rfl, HA.out.next (Below.refl _ _) (by omega), fun a b h hg => by
                  by_cases e : a = i ∧ b = j
                  · exfalso; obtain ⟨rfl, rfl⟩ := e; have := hg.2.2; have := HE.out; omega
                  · exact HV.out a b (by omega) hg⟩ | (trace_state; sorry)
              case measure => simp [intOf]; omega
            · have hgood : Hid (Good n A B U D i j) := Lib.hid ⟨hij, k1, by have := HE.out; omega⟩
              have hle := HA.out.le
              have hwz := HA.out.be.size
              obtain ⟨hi0, hz0, hz1, hz2⟩ := id HI.out
              by_cases x2 : i = j
              · subst x2
                go_wp2_with (at_builtin; refine wpList_append_lies _ rfl _ _ 39 rfl w.heap.size 26 i0 (.agg #[.int .i64 0, .int .i64 0]) 2 16 Try.underlying39 hi0 hz0 hz1 hz2 rfl (by decide) _ ls.length (cf ls) rfl (HA.out.so.alloc _) ⟨w2.heap.size, 0, none⟩ 1 1 [.int .i64 i, .int .i64 i] rfl rfl ?hnews ?hone (by decide) ?h63 ?hbytes ?hbase (w2.heap.size + 1) ?hH ?_)
                case hnews => exact World.news_of_block (cs := #[.int .i64 i, .int .i64 i]) (t := 26) (fr := (0, 0)) (heap_alloc_new w2 _)
                case hone => exact cf_one (l := [(i, i)])
                case h63 => unfold maxLen; omega
                case hbytes => omega
                case hbase => simp only [World.size_alloc]; omega
                case hH => simp
                intro g cap w3 hown hgrow hat hlt
                have N := Lib.hid (Al.single (HA.out.next (below_alloc1 w2 (.cells #[.int .i64 i, .int .i64 i] 26)) (Nat.le_refl _)) hgood.out hown hgrow (by simpa using hat))
                clear hown hgrow hat hlt hle hwz hi0 hz0 hz1 hz2
                go_wp2_with fail
                go_roundw
                case rel => first | exact ⟨i + 1, _, _, by omega, k1, rfl, N.out.next (Below.refl _ _) (by omega), fun a b h hg => (.inl (by simp))⟩ | ((repeat apply Exists.intro); exact ⟨⟨i + 1, _, _, by omega, k1, rfl, N.out.next (Below.refl _ _) (by omega), fun a b h hg => (.inl (by simp))⟩, rfl⟩)
                case measure => simp [intOf]; omega
              · have x3 : ¬ (i : Int) = j := by omega
                go_wp2_with (at_builtin; refine wpList_append_lies _ rfl _ _ 39 rfl w.heap.size 26 i0 (.agg #[.int .i64 0, .int .i64 0]) 2 16 Try.underlying39 hi0 hz0 hz1 hz2 rfl (by decide) _ lp.length (cf lp) rfl (HA.out.po.alloc _) ⟨w2.heap.size, 0, none⟩ 1 1 [.int .i64 i, .int .i64 j] rfl rfl ?hnews ?hone (by decide) ?h63 ?hbytes ?hbase (w2.heap.size + 1) ?hH ?_)
                case hnews => exact World.news_of_block (cs := #[.int .i64 i, .int .i64 j]) (t := 26) (fr := (0, 0)) (heap_alloc_new w2 _)
                case hone => exact cf_one (l := [(i, j)])
                case h63 => unfold maxLen; omega
                case hbytes => omega
                case hbase => simp only [World.size_alloc]; omega
                case hH => simp
                intro g cap w3 hown hgrow hat hlt
                have N := Lib.hid (Al.pair (HA.out.next (below_alloc1 w2 (.cells #[.int .i64 i, .int .i64 j] 26)) (Nat.le_refl _)) hgood.out hown hgrow (by simpa using hat))
                clear hown hgrow hat hlt hle hwz hi0 hz0 hz1 hz2
                go_wp2_with fail
                go_roundw
                case rel => first | exact ⟨j + 1, _, _, by omega, k1, rfl, N.out.next (Below.refl _ _) (by omega), fun a b h hg => (.inr (by simp))⟩ | ((repeat apply Exists.intro); exact ⟨⟨j + 1, _, _, by omega, k1, rfl, N.out.next (Below.refl _ _) (by omega), fun a b h hg => (.inr (by simp))⟩, rfl⟩)
                case measure => simp [intOf]; omega
          · have k2 : ¬ (j : Int) < n := by omega
            go_wp2_with fail
            go_roundw
            case rel => first | exact ⟨i + 1, ls, lp, g1, rfl, HA.out.next (Below.refl _ _) (by omega), fun a b h hg => HV.out a b (by have := hg.2.1; omega) hg⟩ | ((repeat apply Exists.intro); exact ⟨⟨i + 1, ls, lp, g1, rfl, HA.out.next (Below.refl _ _) (by omega), fun a b h hg => HV.out a b (by have := hg.2.1; omega) hg⟩, rfl⟩)
            case measure => simp [intOf]; omega
      · have g2 : ¬ (i : Int) < n := by omega
        obtain ⟨hi0, hz0, hz1, hz2⟩ := id HI.out
        have hle := HA.out.le
        have hV2 : Hid (∀ a b, Good n A B U D a b → ls0 ≠ [] ∨ lp0 ≠ []) := Lib.hid (fun a b hg => HV.out a b (by have := hg.1; have := hg.2.1; omega) hg)
        clear HV
        by_cases l0 : lp0 = []
        · obtain rfl := HA.out.pn l0
          go_wp2_with (at_builtin; refine wpList_append_own_none rfl _ _ 39 rfl w.heap.size 26 i0 2 Try.underlying39 hi0 _ ls0.length (cf ls0) rfl HA.out.so rfl ?_)
          go_ret2
          by_cases l1 : ls0 = []
          · obtain rfl := HA.out.sn l1
            exact ⟨.inr (.inl ⟨HK.out, fun a b hg => (hV2.out a b hg).elim (fun h => h l1) (fun h => h l0), rfl⟩), HA.out.be⟩
          · exact ⟨.inr (.inr ⟨HK.out, _, rfl, fst_of HA.out.so rfl l1 HA.out.sg⟩), HA.out.be⟩
        · have hl0 : 0 < lp0.length := List.length_pos_iff.2 l0
          obtain ⟨gp, capp, rfl, hgp, hgl⟩ := HA.out.po.form hl0
          have hcl := HA.out.po.cells (g := gp) rfl
          have hbs := HA.out.be.size
          go_wp2_with (at_builtin; refine wpList_append_lies _ rfl _ _ 39 rfl w.heap.size 26 i0 (.agg #[.int .i64 0, .int .i64 0]) 2 16 Try.underlying39 hi0 hz0 hz1 hz2 rfl (by decide) _ ls0.length (cf ls0) rfl HA.out.so ⟨gp, 0, none⟩ lp0.length capp (cf lp0) rfl (cf_len _) hcl cf_one hl0 ?h63 ?hbytes hbs wr.heap.size rfl ?_)
          case h63 => unfold maxLen; omega
          case hbytes => omega
          intro g cap w3 hown hgrow hat hlt
          have hb3 : Hid (Below w.heap.size w w3) := Lib.hid (below_gr HA.out.be hgrow (fun k hk => (HA.out.so.lt k hk).1))
          have hF : Hid (Fst (Good n A B U D) w3 (.slice (some ⟨g, 0, none⟩) (ls0.length + lp0.length) cap)) := by
            rw [← cf_app] at hown
            exact Lib.hid (fst_of hown (by rw [List.length_append]) (by simp [l0]) (fun x hx => (List.mem_append.1 hx).elim (HA.out.sg x) (HA.out.pg x)))
          clear hown hgrow hat hlt hcl
          go_wp2_with fail
          go_ret2
          exact ⟨.inr (.inr ⟨HK.out, _, rfl, hF.out⟩), hb3.out⟩
  · have hE2 : (E != 0) = true := by simp [hE]
    go_wp2_with fail
    go_ret2
    exact ⟨.inl ⟨K, E, hE, rfl⟩, hb⟩
end Go.Proofs.Ytkhklhibimihfaa
