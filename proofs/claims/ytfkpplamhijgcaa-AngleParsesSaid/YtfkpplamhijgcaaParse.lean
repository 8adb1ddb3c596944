/- Digits of a text read as a number, on both sides. -/
import Derived.Test.YtfkpplamhijgcaaStrB
namespace Go.Proofs.Ytfkpplamhijgcaa
open Go.RowKit

/-- the number that digits mean. -/
def numv (l : List UInt8) : Int := l.foldl (fun n b => 10 * n + ((b.toNat : Int) - 48)) 0
def isd (b : UInt8) : Bool := decide (48 ≤ (b.toNat : Int) ∧ (b.toNat : Int) ≤ 57)
theorem isd_yes {b : UInt8} (h : 48 ≤ (b.toNat : Int) ∧ (b.toNat : Int) ≤ 57) : isd b = true := decide_eq_true h
theorem isd_no {b : UInt8} (h : ¬ (48 ≤ (b.toNat : Int) ∧ (b.toNat : Int) ≤ 57)) : isd b = false := decide_eq_false h
def alld (l : List UInt8) : Bool := l.all isd
theorem numv_snoc (l : List UInt8) (b : UInt8) : numv (l ++ [b]) = 10 * numv l + ((b.toNat : Int) - 48) := by simp [numv]
theorem alld_snoc (l : List UInt8) (b : UInt8) : alld (l ++ [b]) = (alld l && isd b) := by simp [alld]
theorem alld_append (l m : List UInt8) : alld (l ++ m) = (alld l && alld m) := by simp [alld]
def pw : Nat → Int | 0 => 1 | n + 1 => 10 * pw n
theorem numv_b (l : List UInt8) (h : alld l = true) : 0 ≤ numv l ∧ numv l < pw l.length := by
  have key : ∀ (n : Nat) (l : List UInt8), l.length = n → alld l = true → 0 ≤ numv l ∧ numv l < pw l.length := by
    intro n
    induction n with
    | zero => intro l hl _; obtain rfl := List.eq_nil_of_length_eq_zero hl; exact ⟨Int.le_refl _, by decide⟩
    | succ n ih =>
      intro l hl h
      have hne : l ≠ [] := by intro e; subst e; simp at hl
      have e := (List.dropLast_concat_getLast hne).symm
      have hl2 : l.dropLast.length = n := by simp [hl]
      rw [e] at h ⊢
      rw [alld_snoc, Bool.and_eq_true] at h
      have := ih _ hl2 h.1
      have hb := of_decide_eq_true h.2
      rw [numv_snoc]; simp only [List.length_append, List.length_cons, List.length_nil, Nat.zero_add, pw]; omega
  exact key _ l rfl h
theorem pw_le {a b : Nat} (h : a ≤ b) : pw a ≤ pw b ∧ 1 ≤ pw a := by
  have p1 : ∀ n, 1 ≤ pw n := fun n => by induction n with | zero => decide | succ n ih => simp only [pw]; omega
  refine ⟨?_, p1 a⟩
  induction b with
  | zero => obtain rfl : a = 0 := by omega
            exact Int.le_refl _
  | succ b ih =>
    by_cases e : a = b + 1
    · subst e; exact Int.le_refl _
    · have := ih (by omega); have := p1 b; simp only [pw]; omega
theorem pw17 : pw 17 = 100000000000000000 := by decide
theorem take_snoc (s : ByteArray) (k : Nat) (h : k < s.size) : s.data.toList.take (k + 1) = s.data.toList.take k ++ [s[k]] := by
  rw [List.take_succ_eq_append_getElem (by simpa using h)]; rfl
/-- what is handed back: the number, and whether all are digits. -/
def numw (l : List UInt8) : Int := if alld l then numv l else 0
theorem pair_no {l : List UInt8} (h : alld l = false) : Value.tuple #[.int .i64 (numw l), .bool (alld l)] = .tuple #[.int .i64 0, .bool false] := by simp [numw, h]
theorem pair_yes {l : List UInt8} (h : alld l = true) : Value.tuple #[.int .i64 (numw l), .bool (alld l)] = .tuple #[.int .i64 (numv l), .bool true] := by simp [numw, h]
def SomePair (e : Ending) : Prop := ∃ n b, e = .returned (.tuple #[.int .i64 n, .bool b])
theorem some_pair (n : Int) (b : Bool) : SomePair (.returned (.tuple #[.int .i64 n, .bool b])) := ⟨n, b, rfl⟩
theorem alld_bad (l : List UInt8) (k : Nat) (b : UInt8) (h : l[k]? = some b) (hb : isd b = false) : alld l = false := by
  cases e : alld l
  · rfl
  · unfold alld at e; rw [List.all_eq_true] at e
    rw [e b (List.mem_of_getElem? h)] at hb; exact hb
theorem get_byte (s : ByteArray) (k : Nat) (h : k < s.size) : s.data.toList[k]? = some s[k] := by
  rw [List.getElem?_eq_getElem (by simpa using h)]; rfl

set_option maxHeartbeats 800000 in
theorem number_any (s : ByteArray) (w : World) (hs : s.size ≤ 17) :
    Calls Try.prog 48 #[.string s] w fun e w' => e = .returned (.tuple #[.int .i64 (numw s.data.toList), .bool (alld s.data.toList)]) ∧ w = w' := by
  go_enter Try.func48, Try.ntmps48
  go_wp2
  go_loop [4, 8] (fun n i => ∃ k : Nat, k ≤ s.size ∧ i = .int .i64 k ∧ n = .int .i64 (numv (s.data.toList.take k)) ∧ alld (s.data.toList.take k) = true) (fun _ i => s.size - (intOf i).toNat)
  case atStart => exact ⟨0, Nat.zero_le _, rfl, rfl, rfl⟩
  case round =>
    obtain ⟨k, hk, rfl, rfl, ha⟩ := hrel
    have hb := numv_b _ ha
    have hl : (s.data.toList.take k).length ≤ 17 := by have := List.length_take_le k s.data.toList; omega
    have hp := (pw_le hl).1
    rw [pw17] at hp
    have hv0 := hb.1
    have hv1 : numv (s.data.toList.take k) < 100000000000000000 := by omega
    clear hb hl hp
    by_cases hlt : k < s.size
    · have hts := numv_snoc (s.data.toList.take k) s[k]
      have hta := alld_snoc (s.data.toList.take k) s[k]
      rw [← take_snoc s k hlt] at hts hta
      have hgb := get_byte s k hlt
      have HS := Lib.hid hts
      have HT := Lib.hid hta
      have HA := Lib.hid ha
      have HG := Lib.hid hgb
      clear hts hta ha hgb
      by_cases h1 : (s[k].toNat : Int) < 48
      · go_wp2
        all_goals (go_ret2; exact ⟨by rw [pair_no (alld_bad _ _ _ HG.out (isd_no (by omega)))]; rfl, rfl⟩)
      by_cases h2 : 57 < (s[k].toNat : Int)
      · go_wp2
        all_goals (go_ret2; exact ⟨by rw [pair_no (alld_bad _ _ _ HG.out (isd_no (by omega)))]; rfl, rfl⟩)
      · go_wp2
        go_round
        case rel => exact ⟨k + 1, by omega, by go_num, by rw [HS.out], by rw [HT.out, HA.out, isd_yes (by omega)]; rfl⟩
        case measure => simp [intOf]; omega
    · have e : s.data.toList.take k = s.data.toList := List.take_of_length_le (by simp; omega)
      have HE := Lib.hid e
      have HA := Lib.hid ha
      clear e ha
      go_wp2
      go_ret2
      have ha2 := HA.out
      rw [HE.out] at ha2
      exact ⟨by rw [pair_yes ha2, HE.out]; rfl, rfl⟩
set_option maxHeartbeats 800000 in
theorem number_long (s : ByteArray) (w : World) (hs : s.size ≤ maxLen) :
    Calls Try.prog 48 #[.string s] w fun e w' => SomePair e ∧ w = w' := by
  unfold maxLen at hs
  go_enter Try.func48, Try.ntmps48
  go_wp2
  go_loop [4, 8] (fun n i => ∃ (k : Nat) (z : Int), k ≤ s.size ∧ i = .int .i64 k ∧ n = .int .i64 z) (fun _ i => s.size - (intOf i).toNat)
  case atStart => exact ⟨0, 0, Nat.zero_le _, rfl, rfl⟩
  case round =>
    obtain ⟨k, z, hk, rfl, rfl⟩ := hrel
    by_cases hlt : k < s.size
    · by_cases h1 : (s[k].toNat : Int) < 48
      · go_wp2
        all_goals (go_ret2; exact ⟨some_pair _ _, rfl⟩)
      by_cases h2 : 57 < (s[k].toNat : Int)
      · go_wp2
        all_goals (go_ret2; exact ⟨some_pair _ _, rfl⟩)
      · go_wp2
        go_round
        case rel => exact ⟨k + 1, _, by omega, by go_num, rfl⟩
        case measure => simp [intOf]; omega
    · go_wp2
      go_ret2
      exact ⟨some_pair _ _, rfl⟩

set_option maxHeartbeats 800000 in
theorem value_any (s : ByteArray) (w : World) (hs : s.size ≤ 17) :
    Calls Try.prog 52 #[.string s] w fun e w' => e = .returned (.tuple #[.int .i64 (numw s.data.toList), .bool (alld s.data.toList)]) ∧ w = w' := by
  go_enter Try.func52, Try.ntmps52
  go_wp2
  go_loop [4, 5] (fun n i => ∃ k : Nat, k ≤ s.size ∧ i = .int .i64 k ∧ n = .int .i64 (numv (s.data.toList.take k)) ∧ alld (s.data.toList.take k) = true) (fun _ i => s.size - (intOf i).toNat)
  case atStart => exact ⟨0, Nat.zero_le _, rfl, rfl, rfl⟩
  case round =>
    obtain ⟨k, hk, rfl, rfl, ha⟩ := hrel
    have hb := numv_b _ ha
    have hl : (s.data.toList.take k).length ≤ 17 := by have := List.length_take_le k s.data.toList; omega
    have hp := (pw_le hl).1
    rw [pw17] at hp
    have hv0 := hb.1
    have hv1 : numv (s.data.toList.take k) < 100000000000000000 := by omega
    clear hb hl hp
    by_cases hlt : k < s.size
    · have hts := numv_snoc (s.data.toList.take k) s[k]
      have hta := alld_snoc (s.data.toList.take k) s[k]
      rw [← take_snoc s k hlt] at hts hta
      have hgb := get_byte s k hlt
      have HS := Lib.hid hts
      have HT := Lib.hid hta
      have HA := Lib.hid ha
      have HG := Lib.hid hgb
      clear hts hta ha hgb
      by_cases h1 : (s[k].toNat : Int) < 48
      · go_wp2
        all_goals (go_ret2; exact ⟨by rw [pair_no (alld_bad _ _ _ HG.out (isd_no (by omega)))]; rfl, rfl⟩)
      by_cases h2 : 57 < (s[k].toNat : Int)
      · go_wp2
        all_goals (go_ret2; exact ⟨by rw [pair_no (alld_bad _ _ _ HG.out (isd_no (by omega)))]; rfl, rfl⟩)
      · go_wp2
        go_round
        case rel => exact ⟨k + 1, by omega, by go_num, by rw [HS.out], by rw [HT.out, HA.out, isd_yes (by omega)]; rfl⟩
        case measure => simp [intOf]; omega
    · have e : s.data.toList.take k = s.data.toList := List.take_of_length_le (by simp; omega)
      have HE := Lib.hid e
      have HA := Lib.hid ha
      clear e ha
      go_wp2
      go_ret2
      have ha2 := HA.out
      rw [HE.out] at ha2
      exact ⟨by rw [pair_yes ha2, HE.out]; rfl, rfl⟩
set_option maxHeartbeats 800000 in
theorem value_long (s : ByteArray) (w : World) (hs : s.size ≤ maxLen) :
    Calls Try.prog 52 #[.string s] w fun e w' => SomePair e ∧ w = w' := by
  unfold maxLen at hs
  go_enter Try.func52, Try.ntmps52
  go_wp2
  go_loop [4, 5] (fun n i => ∃ (k : Nat) (z : Int), k ≤ s.size ∧ i = .int .i64 k ∧ n = .int .i64 z) (fun _ i => s.size - (intOf i).toNat)
  case atStart => exact ⟨0, 0, Nat.zero_le _, rfl, rfl⟩
  case round =>
    obtain ⟨k, z, hk, rfl, rfl⟩ := hrel
    by_cases hlt : k < s.size
    · by_cases h1 : (s[k].toNat : Int) < 48
      · go_wp2
        all_goals (go_ret2; exact ⟨some_pair _ _, rfl⟩)
      by_cases h2 : 57 < (s[k].toNat : Int)
      · go_wp2
        all_goals (go_ret2; exact ⟨some_pair _ _, rfl⟩)
      · go_wp2
        go_round
        case rel => exact ⟨k + 1, _, by omega, by go_num, rfl⟩
        case measure => simp [intOf]; omega
    · go_wp2
      go_ret2
      exact ⟨some_pair _ _, rfl⟩
end Go.Proofs.Ytfkpplamhijgcaa
