/- The texts of angles: what the program's functions return. -/
import Derived.Test.YtfkpplamhijgcaaStrA
namespace Go.Proofs.Ytfkpplamhijgcaa
open Go.RowKit

/-- so many digits as bytes. -/
def dgb (n : Int) : Nat → List UInt8
  | 0 => []
  | c + 1 => dgb (n / 10) c ++ [UInt8.ofNat (48 + n % 10).toNat]
def bcells (l : List UInt8) : List Value := l.map (fun b => Value.int .u8 (b.toNat : Int))
theorem bcells_append (l m : List UInt8) : bcells (l ++ m) = bcells l ++ bcells m := by simp [bcells]
theorem dgs_dgb (n : Int) (c : Nat) : dgs n c = bcells (dgb n c) := by
  induction c generalizing n with
  | zero => rfl
  | succ c ih =>
    simp only [dgs, dgb, ih, bcells_append]
    congr 1
    have : (UInt8.ofNat (48 + n % 10).toNat).toNat = (48 + n % 10).toNat := by simp; omega
    simp only [bcells, List.map_cons, List.map_nil, dgt, this]
    rw [Int.toNat_of_nonneg (by omega)]
theorem dgb_len (n : Int) (c : Nat) : (dgb n c).length = c := by
  induction c generalizing n with
  | zero => rfl
  | succ c ih => simp [dgb, ih]
/-- degrees, minutes, seconds and hundredths. -/
def sexb (a : Int) (c : Nat) : List UInt8 := dgb (a / 360000) c ++ (dgb (a / 6000 % 60) 2 ++ (dgb (a / 100 % 60) 2 ++ dgb (a % 100) 2))
theorem sexb_len (a : Int) (c : Nat) : (sexb a c).length = c + 6 := by simp [sexb, dgb_len]

set_option maxHeartbeats 400000 in
theorem split_any (v : Value) (k : Nat) (xs : List Value) (a : Int) (c : Nat) (B : Nat) (w : World) (hn : 0 ≤ a) (hn2 : a ≤ 1000000000) (hc : c ≤ 4) (hk : k ≤ 10) (hB : B ≤ w.heap.size) (hown : w.ownsRow B 5 1 v k xs) :
    Calls Try.prog 47 #[v, .int .i64 a, .int .i64 c] w fun e w' => ∃ v', e = .returned v' ∧ w'.ownsRow B 5 1 v' (k + c + 6) (xs ++ bcells (sexb a c)) ∧ Below B w w' := by
  have hd0 : 0 ≤ a / 360000 := by omega
  have hd1 : a / 360000 ≤ 1000000000 := by omega
  have he0 : 0 ≤ a % 360000 / 6000 := by omega
  have he1 : a % 360000 / 6000 ≤ 60 := by omega
  have hf0 : 0 ≤ a % 6000 / 100 := by omega
  have hf1 : a % 6000 / 100 ≤ 60 := by omega
  have hg0 : 0 ≤ a % 100 := by omega
  have hg1 : a % 100 ≤ 100 := by omega
  go_enter Try.func47, Try.ntmps47
  go_wp2_with fail
  refine (digits_any _ _ _ _ _ _ _ (by omega) (by omega) hc (by omega) hB hown).mono ?_
  rintro e w1 ⟨v1, rfl, hown1, hb1⟩
  have hB1 := Nat.le_trans hB hb1.size
  go_wp2_with fail
  refine (digits_any _ _ _ _ 2 _ _ (by omega) (by omega) (by omega) (by omega) hB1 hown1).mono ?_
  rintro e w2 ⟨v2, rfl, hown2, hb2⟩
  have hB2 := Nat.le_trans hB1 hb2.size
  go_wp2_with fail
  refine (digits_any _ _ _ _ 2 _ _ (by omega) (by omega) (by omega) (by omega) hB2 hown2).mono ?_
  rintro e w3 ⟨v3, rfl, hown3, hb3⟩
  have hB3 := Nat.le_trans hB2 hb3.size
  go_wp2_with fail
  refine (digits_any _ _ _ _ 2 _ _ (by omega) (by omega) (by omega) (by omega) hB3 hown3).mono ?_
  rintro e w4 ⟨v4, rfl, hown4, hb4⟩
  go_wp2
  go_ret
  refine ⟨_, rfl, ?_, ((hb1.trans hb2).trans hb3).trans hb4⟩
  have e1 : a % 360000 / 6000 = a / 6000 % 60 := by omega
  have e2 : a % 6000 / 100 = a / 100 % 60 := by omega
  rw [e1, e2] at hown4
  simpa [sexb, bcells_append, dgs_dgb, Nat.add_assoc] using hown4

/-- the text of a row of bytes of the call's own. -/
theorem str_back {w : World} {B : Nat} {v : Value} {n : Nat} {l : List UInt8} (hown : w.ownsRow B 5 1 v n (bcells l)) (hn : n = l.length) (h0 : 0 < n) :
    (convert 44 9 v).run Try.prog w = .ok (.string ⟨l.toArray⟩) w := by
  subst hn
  obtain ⟨g, cap, rfl, hg⟩ := own_slice_pos hown h0
  refine run_convert_bytes_back w 44 9 5 ⟨g, 0, none⟩ cap l Try.underlying44 Try.underlying5 Try.underlying9 (fun j hj => ?_)
  have h := hown.cellAt j (by omega)
  have e : (⟨g, 0, none⟩ : Addr).add j = ⟨g, j, none⟩ := by
    unfold Addr.add; split
    · subst j; rfl
    · simp
  rw [e, h]; simp [bcells, hj]

/-- one byte in a block of the call's own. -/
theorem own_byte (w : World) (m : Int) : (w.alloc (.cells #[.int .u8 m] 5)).ownsRow w.heap.size 5 1 (.slice (some ⟨w.heap.size, 0, none⟩) 1 1) 1 [.int .u8 m] :=
  ⟨rfl, .inr ⟨w.heap.size, 1, #[.int .u8 m], rfl, Nat.le_refl _, by show (w.heap.push _)[w.heap.size]? = _; simp, by decide, by decide, rfl, rfl⟩⟩

/-- a letter and the digits of a signed angle. -/
def sgt (a : Int) (p m : UInt8) (c : Nat) : List UInt8 := if a < 0 then m :: sexb (-a) c else p :: sexb a c
theorem sgt_len (a : Int) (p m : UInt8) (c : Nat) : (sgt a p m c).length = c + 7 := by unfold sgt; split <;> simp [sexb_len]

set_option maxHeartbeats 400000 in
theorem signed_any (a : Int) (p m : UInt8) (c : Nat) (w : World) (h0 : -1000000000 ≤ a) (h1 : a ≤ 1000000000) (hc : c ≤ 4) :
    Calls Try.prog 55 #[.int .i64 a, .int .u8 p.toNat, .int .u8 m.toNat, .int .i64 c] w fun e w' => e = .returned (.string ⟨(sgt a p m c).toArray⟩) ∧ Below w.heap.size w w' := by
  by_cases h : a < 0
  · go_enter Try.func55, Try.ntmps55
    go_wp2_with fail
    refine (split_any _ 1 [.int .u8 m.toNat] _ _ w.heap.size _ (by omega) (by omega) hc (by omega) (by simp) (own_byte w _)).mono ?_
    rintro e w1 ⟨v1, rfl, hown, hb⟩
    have hs := str_back (l := m :: sexb (-a) c) hown (by simp [sexb_len]; omega) (by omega)
    go_wp2
    go_ret
    exact ⟨by rw [show sgt a p m c = m :: sexb (-a) c by unfold sgt; rw [if_pos h]]; rfl, ((Below.refl _ _).alloc (Nat.le_refl _) _).trans hb⟩
  · go_enter Try.func55, Try.ntmps55
    go_wp2_with fail
    refine (split_any _ 1 [.int .u8 p.toNat] _ _ w.heap.size _ (by omega) (by omega) hc (by omega) (by simp) (own_byte w _)).mono ?_
    rintro e w1 ⟨v1, rfl, hown, hb⟩
    have hs := str_back (l := p :: sexb a c) hown (by simp [sexb_len]; omega) (by omega)
    go_wp2
    go_ret
    exact ⟨by rw [show sgt a p m c = p :: sexb a c by unfold sgt; rw [if_neg (by omega)]]; rfl, ((Below.refl _ _).alloc (Nat.le_refl _) _).trans hb⟩

/-- the texts of latitudes and longitudes. -/
def latT (a : Int) : List UInt8 := sgt a 78 83 2
def lonT (a : Int) : List UInt8 := sgt a 69 87 3
def isLat (a : Int) : Bool := decide (-32400000 ≤ a ∧ a ≤ 32400000)
def isLon (a : Int) : Bool := decide (-64800000 < a ∧ a ≤ 64800000)
abbrev StrErr (l : List UInt8) (n : Int) : Ending := .returned (.tuple #[.string ⟨l.toArray⟩, .int .i64 n])

set_option maxHeartbeats 400000 in
theorem latT_any (a : Int) (w : World) (h0 : -32400000 ≤ a) (h1 : a ≤ 32400000) :
    Calls Try.prog 35 #[.int .i64 a] w fun e w' => e = StrErr (latT a) 0 ∧ Below w.heap.size w w' := by
  have hd : decide (a ≤ 32400000) = true := by simp; omega
  go_enter Try.func35, Try.ntmps35
  go_wp2_with (first | (go_at_call 54; go_in) | (go_at_call 55; refine (signed_any a 78 83 2 _ (by omega) (by omega) (by omega)).mono ?_; rintro e w' ⟨rfl, hb⟩))
  go_ret2
  exact ⟨rfl, hb⟩
set_option maxHeartbeats 400000 in
theorem latT_no (a : Int) (w : World) (h : ¬ (-32400000 ≤ a ∧ a ≤ 32400000)) :
    Calls Try.prog 35 #[.int .i64 a] w fun e w' => e = StrErr [] 2 ∧ w = w' := by
  by_cases h0 : a < -32400000
  · go_enter Try.func35, Try.ntmps35
    go_wp2
    go_ret2
    exact ⟨rfl, rfl⟩
  · have hd : decide (a ≤ 32400000) = false := by simp; omega
    have h1 : 32400000 < a := by omega
    go_enter Try.func35, Try.ntmps35
    go_wp2
    go_ret2
    exact ⟨rfl, rfl⟩
set_option maxHeartbeats 400000 in
theorem lonT_any (a : Int) (w : World) (h0 : -64800000 < a) (h1 : a ≤ 64800000) :
    Calls Try.prog 36 #[.int .i64 a] w fun e w' => e = StrErr (lonT a) 0 ∧ Below w.heap.size w w' := by
  have hd : decide (a ≤ 64800000) = true := by simp; omega
  go_enter Try.func36, Try.ntmps36
  go_wp2_with (first | (go_at_call 56; go_in) | (go_at_call 55; refine (signed_any a 69 87 3 _ (by omega) (by omega) (by omega)).mono ?_; rintro e w' ⟨rfl, hb⟩))
  go_ret2
  exact ⟨rfl, hb⟩
set_option maxHeartbeats 400000 in
theorem lonT_no (a : Int) (w : World) (h : ¬ (-64800000 < a ∧ a ≤ 64800000)) :
    Calls Try.prog 36 #[.int .i64 a] w fun e w' => e = StrErr [] 2 ∧ w = w' := by
  by_cases h0 : a ≤ -64800000
  · go_enter Try.func36, Try.ntmps36
    go_wp2
    go_ret2
    exact ⟨rfl, rfl⟩
  · have hd : decide (a ≤ 64800000) = false := by simp; omega
    have h1 : 64800000 < a := by omega
    go_enter Try.func36, Try.ntmps36
    go_wp2
    go_ret2
    exact ⟨rfl, rfl⟩
set_option maxHeartbeats 400000 in
theorem cT_any (a : Int) (w : World) :
    Calls Try.prog 27 #[.int .i64 a] w fun e w' => e = .returned (.string ⟨(dgb ((a % 129600000 + 18000) / 36000 % 3600) 4).toArray⟩) ∧ Below w.heap.size w w' := by
  have h0 : 0 ≤ a % 129600000 := by omega
  have h1 : a % 129600000 < 129600000 := by omega
  have h2 : 0 ≤ (a % 129600000 + 18000) / 36000 % 3600 := by omega
  have h3 : (a % 129600000 + 18000) / 36000 % 3600 ≤ 3600 := by omega
  go_enter Try.func27, Try.ntmps27
  go_wp2_with (go_at_call 14; refine (norm_any _ _).mono ?_; rintro e w' ⟨rfl, rfl⟩)
  refine (digits_any _ 0 [] _ 4 w.heap.size _ (by omega) (by omega) (by omega) (by omega) (Nat.le_refl _) (World.ownsRow_nil _ _ _ _)).mono ?_
  rintro e w1 ⟨v1, rfl, hown, hb⟩
  have hs := str_back (l := dgb ((a % 129600000 + 18000) / 36000 % 3600) 4) (by simpa [dgs_dgb] using hown) (by simp [dgb_len]) (by omega)
  go_wp2
  go_ret
  exact ⟨rfl, hb⟩
set_option maxHeartbeats 400000 in
theorem ex_any (a : Int) (w : World) :
    Calls Try.prog 28 #[.int .i64 a] w fun e w' => e = .returned (.string ⟨(sexb (a % 129600000) 3).toArray⟩) ∧ Below w.heap.size w w' := by
  go_enter Try.func28, Try.ntmps28
  go_wp2_with (go_at_call 14; refine (norm_any _ _).mono ?_; rintro e w' ⟨rfl, rfl⟩)
  refine (split_any _ 0 [] _ 3 w.heap.size _ (by omega) (by omega) (by omega) (by omega) (Nat.le_refl _) (World.ownsRow_nil _ _ _ _)).mono ?_
  rintro e w1 ⟨v1, rfl, hown, hb⟩
  have hs := str_back (l := sexb (a % 129600000) 3) (by simpa using hown) (by simp [sexb_len]) (by omega)
  go_wp2
  go_ret
  exact ⟨rfl, hb⟩
end Go.Proofs.Ytfkpplamhijgcaa
