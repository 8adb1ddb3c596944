/- Angles read back, on both sides. -/
import Derived.Test.YtfkpplamhijgcaaParse
import Derived.Lib.Strings
import Derived.Lib.IndexBytes
namespace Go.Proofs.Ytfkpplamhijgcaa
open Go.RowKit
set_option linter.unusedVariables false

def ext (s : ByteArray) (a b : Nat) : List UInt8 := (s.extract a b).data.toList
/-- the parts of a text of degrees, minutes, seconds and hundredths are in order. -/
def jok (s : ByteArray) (c : Nat) : Prop := s.size = c + 6 ∧ alld s.data.toList = true ∧ numw (ext s c (c + 2)) < 60 ∧ numw (ext s (c + 2) (c + 4)) < 60
def jval (s : ByteArray) (c : Nat) : Int := numw (ext s 0 c) * 360000 + numw (ext s c (c + 2)) * 6000 + numw (ext s (c + 2) (c + 4)) * 100 + numw (ext s (c + 4) s.size)

def JEnd (s : ByteArray) (c : Nat) (e : Ending) : Prop := (jok s c ∧ e = .returned (.tuple #[.int .i64 (jval s c), .bool true])) ∨ (¬ jok s c ∧ e = .returned (.tuple #[.int .i64 0, .bool false]))
theorem jend_yes {s : ByteArray} {c : Nat} (h1 : s.size = c + 6) (h2 : alld s.data.toList = true) (h3 : numw (ext s c (c + 2)) < 60) (h4 : numw (ext s (c + 2) (c + 4)) < 60) (z : Int) (h : z = jval s c) : JEnd s c (.returned (.tuple #[.int .i64 z, .bool true])) := .inl ⟨⟨h1, h2, h3, h4⟩, by rw [h]⟩
theorem jend_no {s : ByteArray} {c : Nat} (h : ¬ jok s c) : JEnd s c (.returned (.tuple #[.int .i64 0, .bool false])) := .inr ⟨h, rfl⟩
theorem numw_b {l : List UInt8} {k : Nat} (h : l.length ≤ k) : 0 ≤ numw l ∧ numw l < pw k := by
  unfold numw; split
  · have := numv_b l ‹_›; have := pw_le h; omega
  · have := pw_le h; omega
theorem pw4 : pw 4 = 10000 := by decide
theorem pw2 : pw 2 = 100 := by decide
theorem ext_b (s : ByteArray) (a b : Nat) : 0 ≤ numw (ext s a b) ∧ (b - a ≤ 4 → numw (ext s a b) < 10000) ∧ (b - a ≤ 2 → numw (ext s a b) < 100) := by
  have hl : (ext s a b).length ≤ b - a := by simp [ext]; omega
  refine ⟨(numw_b hl).1, fun h => ?_, fun h => ?_⟩
  · have := (numw_b (k := 4) (l := ext s a b) (by omega)).2; rw [pw4] at this; exact this
  · have := (numw_b (k := 2) (l := ext s a b) (by omega)).2; rw [pw2] at this; exact this
theorem ext_size (s : ByteArray) (a b : Nat) : (s.extract a b).size ≤ b - a := by simp; omega
theorem ext_to (s : ByteArray) (a : Nat) : ext s a s.size = s.data.toList.drop a := by unfold ext; exact Lib.extract_to_end s a
theorem alld_ext {s : ByteArray} (h : alld s.data.toList = true) (a b : Nat) : alld (ext s a b) = true := by
  unfold alld ext at *
  rw [List.all_eq_true] at *
  rw [Lib.extract_data]
  exact fun x hx => h x (List.mem_of_mem_drop (List.mem_of_mem_take hx))
theorem alld_parts {s : ByteArray} {c : Nat} (hs : s.size = c + 6) : alld s.data.toList = (alld (ext s 0 c) && (alld (ext s c (c + 2)) && (alld (ext s (c + 2) (c + 4)) && alld (ext s (c + 4) s.size)))) := by
  have e : s.data.toList = ext s 0 c ++ (ext s c (c + 2) ++ (ext s (c + 2) (c + 4) ++ ext s (c + 4) s.size)) := by
    unfold ext
    rw [Lib.extract_data, Lib.extract_data, Lib.extract_data, Lib.extract_data]
    have hl : s.data.toList.length = c + 6 := by rw [← hs]; rfl
    generalize s.data.toList = l at *
    rw [show c + 2 - c = 2 by omega, show c + 4 - (c + 2) = 2 by omega, show s.size - (c + 4) = 2 by omega, List.drop_zero, Nat.sub_zero,
      List.take_of_length_le (l := l.drop (c + 4)) (by simp; omega)]
    have e1 : l.drop (c + 4) = (l.drop (c + 2)).drop 2 := by rw [List.drop_drop]
    have e2 : l.drop (c + 2) = (l.drop c).drop 2 := by rw [List.drop_drop]
    rw [e1, List.take_append_drop, e2, List.take_append_drop, List.take_append_drop]
  calc alld s.data.toList = alld (ext s 0 c ++ (ext s c (c + 2) ++ (ext s (c + 2) (c + 4) ++ ext s (c + 4) s.size))) := by rw [← e]
    _ = _ := by rw [alld_append, alld_append, alld_append]

set_option maxHeartbeats 1600000 in
theorem join_any (s : ByteArray) (c : Nat) (w : World) (hm : s.size ≤ maxLen) (hc : c ≤ 4) :
    Calls Try.prog 49 #[.string s, .int .i64 c] w fun e w' => JEnd s c e ∧ w = w' := by
  unfold maxLen at hm
  by_cases h1 : s.size = c + 6
  · have hsz : ((s.size : Int) != (c : Int) + 6) = false := by simp; omega
    have hs1 : s.size ≤ c + 6 := by omega
    have hs2 : c + 6 ≤ s.size := by omega
    have H1 := Lib.hid h1
    clear h1
    by_cases h2 : alld s.data.toList = true
    · have ⟨b0, b1, _⟩ := ext_b s 0 c
      have ⟨c0, _, c1⟩ := ext_b s c (c + 2)
      have ⟨d0, _, d1⟩ := ext_b s (c + 2) (c + 4)
      have ⟨e0, _, e1⟩ := ext_b s (c + 4) s.size
      have b2 := b1 (by omega)
      have c2 := c1 (by omega)
      have d2 := d1 (by omega)
      have e2 := e1 (by omega)
      clear b1 c1 d1 e1
      have f1 := ext_size s 0 c
      have f2 := ext_size s c (c + 2)
      have f3 := ext_size s (c + 2) (c + 4)
      have f4 := ext_size s (c + 4) s.size
      have H2 := Lib.hid h2
      unfold ext at b0 b2 c0 c2 d0 d2 e0 e2
      go_enter Try.func49, Try.ntmps49
      go_wp2_with fail
      refine (number_any s _ (by omega)).mono ?_
      rintro e w' ⟨rfl, rfl⟩
      go_wp2_with fail
      refine (number_any (s.extract 0 c) _ (by omega)).mono ?_
      rintro e w' ⟨rfl, rfl⟩
      generalize hD : numw (s.extract 0 c).data.toList = D at *
      generalize alld (s.extract 0 c).data.toList = bD at *
      have HD := Lib.hid hD
      clear hD
      go_wp2_with fail
      refine (number_any (s.extract c (c + 2)) _ (by omega)).mono ?_
      rintro e w' ⟨rfl, rfl⟩
      generalize hM : numw (s.extract c (c + 2)).data.toList = M at *
      generalize alld (s.extract c (c + 2)).data.toList = bM at *
      have HM := Lib.hid hM
      clear hM
      go_wp2_with fail
      refine (number_any (s.extract (c + 2) (c + 4)) _ (by omega)).mono ?_
      rintro e w' ⟨rfl, rfl⟩
      generalize hS : numw (s.extract (c + 2) (c + 4)).data.toList = S at *
      generalize alld (s.extract (c + 2) (c + 4)).data.toList = bS at *
      have HS := Lib.hid hS
      clear hS
      go_wp2_with fail
      refine (number_any (s.extract (c + 4) s.size) _ (by omega)).mono ?_
      rintro e w' ⟨rfl, rfl⟩
      generalize hF : numw (s.extract (c + 4) s.size).data.toList = F at *
      generalize alld (s.extract (c + 4) s.size).data.toList = bF at *
      have HF := Lib.hid hF
      clear hF
      clear f1 f2 f3 f4
      have HJ : Hid (∀ z, z = D * 360000 + M * 6000 + S * 100 + F → M < 60 → S < 60 → JEnd s c (.returned (.tuple #[.int .i64 z, .bool true]))) := fun z hz hm hs => jend_yes H1.out H2.out (by unfold ext; rw [HM.out]; exact hm) (by unfold ext; rw [HS.out]; exact hs) z (by unfold jval ext; rw [HD.out, HM.out, HS.out, HF.out]; exact hz)
      have HK : Hid (¬ (M < 60 ∧ S < 60) → JEnd s c (.returned (.tuple #[.int .i64 0, .bool false]))) := fun h => jend_no (fun hj => h ⟨by have := hj.2.2.1; unfold ext at this; rw [HM.out] at this; exact this, by have := hj.2.2.2; unfold ext at this; rw [HS.out] at this; exact this⟩)
      clear HD HM HS HF H1 H2
      by_cases hm1 : M < 60
      · by_cases hs : S < 60
        · go_wp2
          go_ret2
          exact ⟨HJ.out _ rfl hm1 hs, rfl⟩
        · go_wp2
          go_ret2
          exact ⟨HK.out (by omega), rfl⟩
      · go_wp2
        go_ret2
        exact ⟨HK.out (by omega), rfl⟩
    · have h2' : alld s.data.toList = false := by simpa using h2
      go_enter Try.func49, Try.ntmps49
      go_wp2_with fail
      refine (number_any s _ (by omega)).mono ?_
      rintro e w' ⟨rfl, rfl⟩
      go_wp2
      go_ret2
      exact ⟨jend_no (fun h => h2 h.2.1), rfl⟩
  · have hsz : ((s.size : Int) != (c : Int) + 6) = true := by simp; omega
    have H1 := Lib.hid h1
    clear h1
    go_enter Try.func49, Try.ntmps49
    go_wp2
    go_ret2
    exact ⟨jend_no (fun h => H1.out h.1), rfl⟩
end Go.Proofs.Ytfkpplamhijgcaa
