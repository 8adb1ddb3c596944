/- A new slice of windows: bWide. -/
import Derived.Test.YtkhklhibimihfaaPairF
import Derived.OwnWalk
namespace Go.Proofs.Ytkhklhibimihfaa
open Go.RowKit Go.Joins Fdk
set_option linter.unusedVariables false
theorem Try.info_w : (Try.prog.info? 32).map (fun i => (i.zero, i.size, i.bytes)) = some (some (.agg #[.int .i64 0, .int .i64 0]), 2, 16) := by kernel_rfl
/-- n pairs in a block of the call's own. -/
structure Wr (w : World) (b n : Nat) (A B : Nat → Int) : Prop where
  ca : ∀ i, i < n → w.cell? ⟨b, i * 2, none⟩ = some (.int .i64 (A i))
  cb : ∀ i, i < n → w.cell? ⟨b, i * 2 + 1, none⟩ = some (.int .i64 (B i))
  f : ∀ i, i < n * 2 → w.frozen? ⟨b, i, none⟩ = false
  lt : b < w.heap.size
theorem Wr.next {w w' : World} {b n : Nat} {A B : Nat → Int} (h : Wr w b n A B) (k : Below w.heap.size w w') : Wr w' b n A B :=
  ⟨fun i hi => (k.cell (p := ⟨b, i * 2, none⟩) h.lt).trans (h.ca i hi), fun i hi => (k.cell (p := ⟨b, i * 2 + 1, none⟩) h.lt).trans (h.cb i hi), fun i hi => (k.frozen (p := ⟨b, i, none⟩) h.lt).trans (h.f i hi), Nat.lt_of_lt_of_le h.lt k.size⟩
theorem Wr.ext {w : World} {b n : Nat} {A B A' B' : Nat → Int} (h : Wr w b n A B) (e : ∀ t, t < n → A t = A' t ∧ B t = B' t) : Wr w b n A' B' :=
  ⟨fun i hi => by rw [← (e i hi).1]; exact h.ca i hi, fun i hi => by rw [← (e i hi).2]; exact h.cb i hi, h.f, h.lt⟩
def upd (A : Nat → Int) (k : Nat) (x : Int) (t : Nat) : Int := if t = k then x else A t
theorem Wr.put {w : World} {b n : Nat} {A B : Nat → Int} (h : Wr w b n A B) {k : Nat} (hk : k < n) (x y : Int) : Wr ((w.setCell ⟨b, k * 2, none⟩ (.int .i64 x)).setCell ⟨b, k * 2 + 1, none⟩ (.int .i64 y)) b n (upd A k x) (upd B k y) := by
  refine ⟨fun i hi => ?_, fun i hi => ?_, fun i hi => by simp [h.f i hi], by simp [h.lt]⟩
  · rw [cother (by simp [*] <;> omega)]
    unfold upd
    by_cases e : i = k
    · subst e; rw [if_pos rfl]; exact csame (h.ca i hi)
    · rw [if_neg e, cother (by simp [*] <;> omega)]; exact h.ca i hi
  · unfold upd
    by_cases e : i = k
    · subst e; rw [if_pos rfl]; exact csame ((cother (by simp)).trans (h.cb i hi))
    · rw [if_neg e, cother (by simp [*] <;> omega), cother (by simp [*] <;> omega)]; exact h.cb i hi
theorem Wr.s2 {w : World} {b n : Nat} {A B : Nat → Int} (h : Wr w b n A B) (hn : n ≤ maxLen) : S2 w (some ⟨b, 0, none⟩) n n A B :=
  ⟨hn, fun _ => ⟨Nat.le_refl _, hn⟩, fun _ => ⟨b, 0, rfl, h.lt, fun i hi => by rw [Nat.zero_add]; exact ⟨h.ca i hi, h.cb i hi⟩⟩⟩
theorem made2 (n j : Nat) (h : j < n * 2) : (madeCells #[.int .i64 0, .int .i64 0] (n * 2)).toList[j]? = some (.int .i64 0) := by
  have e : ∀ r, r < 2 → (#[.int .i64 0, .int .i64 0] : Array Value)[r]! = .int .i64 0 := fun r hr => by
    match r, hr with
    | 0, _ => rfl
    | 1, _ => rfl
  simp only [madeCells, Array.getElem?_toList, Array.getElem?_map, Array.getElem?_range, h, if_true, Option.map_some]
  exact congrArg some (e _ (Nat.mod_lt _ (by decide)))
theorem wr_made {w : World} {base e g n : Nat} (h : w.ownsRow base e 2 (.slice (some ⟨g, 0, none⟩) n n) n (madeCells #[.int .i64 0, .int .i64 0] (n * 2)).toList) (hn : 0 < n) : Wr w g n (fun _ => 0) (fun _ => 0) := by
  have hc := h.cells (g := g) rfl
  have hfl : ∀ k, ((⟨g, 0, none⟩ : Addr).add k) = ⟨g, k, none⟩ := fun k => by unfold Addr.add; split <;> simp_all
  refine ⟨fun i hi => ?_, fun i hi => ?_, fun i hi => ?_, (h.lt g rfl).2⟩
  · rw [← hfl]; exact hc _ _ (made2 n (i * 2) (by omega))
  · rw [← hfl]; exact hc _ _ (made2 n (i * 2 + 1) (by omega))
  · rcases h.2 with ⟨h0, _⟩ | ⟨g', cap', cur, hv, _, hg, _⟩
    · cases h0
    · cases hv
      exact frozen_of_row _ _ _ _ _ hg
set_option maxHeartbeats 4000000 in
theorem wide_any (n : Nat) (h0 : 0 < n) (h1 : n ≤ 64) (w : World) :
    Calls Try.prog 6 #[.int .i64 n] w fun e w' => (∃ b, w.heap.size ≤ b ∧ e = .returned (.slice (some ⟨b, 0, none⟩) n n) ∧ Wr w' b n (fun _ => -1099511627776) (fun _ => 1099511627776)) ∧ Below w.heap.size w w' := by
  obtain ⟨i0, hi0, hz0, hz1, hz2⟩ := info_parts Try.info_w
  go_enter Try.func6, Try.ntmps6
  go_wp2_with (at_make; refine wpList_make_full _ rfl _ _ 22 rfl w.heap.size 32 i0 (.agg #[.int .i64 0, .int .i64 0]) 2 Try.underlying22 hi0 hz0 hz1 .i64 .i64 _ _ n rfl rfl rfl rfl ?hb ?h63 (Nat.le_refl _) ?_)
  case hb => rw [hz2]; omega
  case h63 => unfold maxLen; omega
  intro w1 hown hgrow
  have W0 := wr_made hown h0
  have B0 := below_gr (Below.refl w.heap.size w) hgrow (fun k hk => by cases hk)
  clear hown hgrow hi0 hz0 hz1 hz2
  go_wp2_with fail
  go_loopw [9] (fun s wr => ∃ (k : Nat) (A B : Nat → Int), k ≤ n ∧ s = .int .i64 k ∧ Wr wr w.heap.size n A B ∧ (∀ t, t < k → A t = -1099511627776 ∧ B t = 1099511627776) ∧ Below w.heap.size w wr) (fun s _ => n - (intOf s).toNat)
  case atStart => exact ⟨0, _, _, Nat.zero_le _, rfl, W0, fun t h => absurd h (Nat.not_lt_zero _), B0⟩
  case round =>
    clear W0 B0
    obtain ⟨k, A, B, hk, rfl, hW, hV, hb⟩ := hrel
    by_cases g1 : k < n
    · have g2 : (k : Int) < n := by omega
      have g3 : (0 : Int) ≤ k := Int.natCast_nonneg k
      have c0 := hW.ca k g1
      have c1 := hW.cb k g1
      have f0 := hW.f (k * 2) (by omega)
      have f1 := hW.f (k * 2 + 1) (by omega)
      have HW := Lib.hid (hW.put g1 (-1099511627776) 1099511627776)
      have HV := Lib.hid hV
      have HB := Lib.hid (Below.setCell (Below.setCell hb (p := ⟨w.heap.size, k * 2, none⟩) (Nat.le_refl _) (.int .i64 (-1099511627776))) (p := ⟨w.heap.size, k * 2 + 1, none⟩) (Nat.le_refl _) (.int .i64 1099511627776))
      clear hW hV hb
      go_wp2_with fail
      refine ⟨⟨k + 1, _, _, g1, rfl, HW.out, fun t ht => ?_, HB.out⟩, by simp [intOf]; omega⟩
      unfold upd
      by_cases e : t = k
      · rw [if_pos e, if_pos e]; exact ⟨rfl, rfl⟩
      · rw [if_neg e, if_neg e]; exact HV.out t (by omega)
    · have g2 : ¬ (k : Int) < n := by omega
      have hkn : k = n := by omega
      rw [hkn] at hV
      have HW := Lib.hid (hW.ext (A' := fun _ => -1099511627776) (B' := fun _ => 1099511627776) hV)
      have HB := Lib.hid hb
      clear hW hV hb
      go_wp2_with fail
      go_ret
      exact ⟨⟨_, Nat.le_refl _, rfl, HW.out⟩, HB.out⟩
end Go.Proofs.Ytkhklhibimihfaa
