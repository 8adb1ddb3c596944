/- Digits of a number, written into a slice of bytes of the call's own. -/
import Derived.Test.YtfkpplamhijgcaaAngle
namespace Go.Proofs.Ytfkpplamhijgcaa
open Go.RowKit

theorem Try.info5 : (Try.prog.info? 5).map (fun i => (i.zero, i.size, i.bytes)) = some (some (.int .u8 0), 1, 1) := by kernel_rfl

theorem own_slice {w : World} {base : Nat} {e : TypeId} {size n : Nat} {v : Value} {xs : List Value} (h : w.ownsRow base e size v n xs) : ∃ a cap, v = .slice a n cap ∧ ∀ g, a = some g → g.off = 0 ∧ g.spot = none ∧ base ≤ g.block := by
  obtain ⟨hl, h | ⟨g', cap', cur, hv, hb, hg, hn, hm, hs, ht⟩⟩ := h
  · obtain ⟨rfl, rfl⟩ := h; exact ⟨none, 0, rfl, fun _ h => by cases h⟩
  · exact ⟨_, _, hv, fun _ h => by cases h; exact ⟨rfl, rfl, hb⟩⟩
theorem own_slice_pos {w : World} {base : Nat} {e : TypeId} {size n : Nat} {v : Value} {xs : List Value} (h : w.ownsRow base e size v n xs) (hn : 0 < n) : ∃ g cap, v = .slice (some ⟨g, 0, none⟩) n cap ∧ base ≤ g := by
  obtain ⟨hl, h | ⟨g', cap', cur, hv, hb, hg, hn, hm, hs, ht⟩⟩ := h
  · omega
  · exact ⟨_, _, hv, hb⟩

/-- a digit as a byte. -/
def dgt (n : Int) : Value := .int .u8 (48 + n % 10)
/-- so many digits of a number. -/
def dgs (n : Int) : Nat → List Value
  | 0 => []
  | c + 1 => dgs (n / 10) c ++ [dgt n]

theorem dgs_step (n : Int) (c : Nat) (ys : List Value) : dgs (n / 10) c ++ (dgt n :: ys) = dgs n (c + 1) ++ ys := by simp [dgs]
theorem dgs_len (n : Int) (c : Nat) : (dgs n c).length = c := by
  induction c generalizing n with
  | zero => rfl
  | succ c ih => simp [dgs, ih]
theorem set_at (xs ys : List Value) (k q : Nat) (z d : Value) (h : xs.length = k) : (xs ++ (List.replicate (q + 1) z ++ ys)).set (k + q) d = xs ++ (List.replicate q z ++ (d :: ys)) := by
  rw [List.set_append_right _ _ (by omega), show k + q - xs.length = q by omega, List.replicate_succ', List.append_assoc, List.set_append_right _ _ (by simp)]
  simp
theorem get_at (xs ys : List Value) (k q : Nat) (z : Value) (h : xs.length = k) : (xs ++ (List.replicate (q + 1) z ++ ys))[k + q]? = some z := by
  rw [List.getElem?_append_right (by omega), show k + q - xs.length = q by omega, List.getElem?_append_left (by simp), List.getElem?_replicate, if_pos (by omega)]

set_option maxHeartbeats 400000 in
theorem digits_any (v : Value) (k : Nat) (xs : List Value) (n : Int) (c : Nat) (B : Nat) (w : World) (hn : 0 ≤ n) (hn2 : n ≤ 1000000000) (hc : c ≤ 4) (hk : k ≤ 100) (hB : B ≤ w.heap.size) (hown : w.ownsRow B 5 1 v k xs) :
    Calls Try.prog 46 #[v, .int .i64 n, .int .i64 c] w fun e w' => ∃ v', e = .returned v' ∧ w'.ownsRow B 5 1 v' (k + c) (xs ++ dgs n c) ∧ Below B w w' := by
  obtain ⟨i0, hi, hz0, hz1, hz2⟩ := info_parts Try.info5
  obtain ⟨a, cap, rfl, ha⟩ := own_slice hown
  clear ha
  have Hxl := Lib.hid hown.1
  go_enter Try.func46, Try.ntmps46
  go_wp2
  go_loopw [0, 12] (fun v i wr => ∃ (j : Nat) , j ≤ c ∧ i = .int .i64 j ∧ wr.ownsRow B 5 1 v (k + j) (xs ++ List.replicate j (.int .u8 48)) ∧ Below B w wr) (fun _ i _ => c - (intOf i).toNat)
  case atStart => exact ⟨0, Nat.zero_le _, rfl, by simpa using hown, Below.refl _ _⟩
  case round =>
    obtain ⟨j, hj, rfl, hown1, hb⟩ := hrel
    obtain ⟨a1, cap1, rfl, ha1⟩ := own_slice hown1
    clear ha1
    by_cases hlt : j < c
    · go_wp2_with (at_builtin; refine wpList_append_own _ rfl _ _ 44 rfl B 5 i0 (.int .u8 0) 1 1 Try.underlying44 hi hz0 hz1 hz2 rfl (by decide) _ _ _ rfl (hown1.alloc _) ⟨wr.heap.size, 0, none⟩ 1 1 [.int .u8 48] rfl rfl ?c1 ?c2 ?c3 ?c4 ?c5 ?_)
      case c1 => exact cell_one_new _ _ _
      case c2 => simp [Value.oneCell']
      case c3 => unfold maxLen; omega
      case c4 => omega
      case c5 => have := hb.size; simp; omega
      intro v' w' hown2 hg _
      have hb2 := (hb.alloc (Nat.le_trans hB hb.size) _).grown hg (by have := hb.size; simp; omega) (fun k hk => (hown1.lt k hk).1)
      have hown3 : w'.ownsRow B 5 1 v' (k + (j + 1)) (xs ++ List.replicate (j + 1) (.int .u8 48)) := by
        rw [List.replicate_succ', ← List.append_assoc]; simpa [Nat.add_assoc] using hown2
      clear hg hown1 hown2 hb
      go_wp2
      go_roundw
      case rel => exact ⟨j + 1, by omega, by go_num, hown3, hb2⟩
      case measure => simp [intOf]; omega
    · obtain rfl : c = j := by omega
      have hcp : c = 0 ∨ ∃ g, a1 = some ⟨g, 0, none⟩ ∧ B ≤ g := by
        by_cases h0 : 0 < k + c
        · obtain ⟨g, cap2, he, hg⟩ := own_slice_pos hown1 h0
          cases he; exact .inr ⟨g, rfl, hg⟩
        · exact .inl (by omega)
      clear hown
      go_wp2
      go_loopw [8, 1] (fun i n' wq => ∃ (p : Nat) (nn : Int) (ys : List Value), p ≤ c ∧ 0 ≤ nn ∧ nn ≤ 1000000000 ∧ i = .int .i64 ((k : Int) + p - 1) ∧ n' = .int .i64 nn ∧ wq.ownsRow B 5 1 (.slice a1 (k + c) cap1) (k + c) (xs ++ (List.replicate p (.int .u8 48) ++ ys)) ∧ dgs nn p ++ ys = dgs n c ∧ Below B w wq) (fun i _ _ => (intOf i - k + 1).toNat)
      case atStart => exact ⟨c, n, [], Nat.le_refl _, hn, hn2, rfl, rfl, by simpa using hown1, by simp, hb⟩
      case round =>
        obtain ⟨p, nn, ys, hp, hn0, hn1, hi1, rfl, hown2, hys, hb2⟩ := hrel
        clear hown1
        by_cases hp0 : p = 0
        · subst hp0
          obtain rfl : _ = _ := hi1
          have Hy := Lib.hid hys
          clear hys
          go_wp2
          go_ret
          refine ⟨_, rfl, ?_, hb2⟩
          have hyy := Hy.out
          simp [dgs] at hyy
          subst hyy
          simpa using hown2
        · obtain ⟨q, rfl⟩ : ∃ q, p = q + 1 := ⟨p - 1, by omega⟩
          rcases hcp with h | ⟨g, rfl, hg⟩
          · omega
          rw [show (k : Int) + ((q + 1 : Nat) : Int) - 1 = (k : Int) + (q : Int) by omega] at hi1
          obtain rfl : _ = _ := hi1
          have hcell : wr.cell? ⟨g, k + q, none⟩ = some (.int .u8 48) := by
            rw [hown2.cellAt _ (by omega)]; exact get_at _ _ _ _ _ (by simpa using Hxl.out)
          have hfr := hown2.frozenAt (k + q)
          have hst := (hown2.stored (k + q) (dgt nn)).1
          rw [set_at _ _ _ _ _ _ (by simpa using Hxl.out)] at hst
          have hb3 := hb2.setCell (p := ⟨g, k + q, none⟩) (by exact hg) (dgt nn)
          have Hy := Lib.hid hys
          have hd0 : 0 ≤ nn % 10 := by omega
          have hd1 : nn % 10 < 10 := by omega
          clear hys hown2 hb2
          unfold dgt at hst hb3
          go_wp2
          go_roundw
          case rel => exact ⟨q, nn / 10, dgt nn :: ys, by omega, by omega, by omega, rfl, rfl, hst, (dgs_step _ _ _).trans Hy.out, hb3⟩
          case measure => simp [intOf]; omega
end Go.Proofs.Ytfkpplamhijgcaa
